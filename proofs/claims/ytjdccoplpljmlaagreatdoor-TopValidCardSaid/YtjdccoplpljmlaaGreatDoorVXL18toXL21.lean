/-
  LINT, 18: a function value asked at every node of a tree.
-/
import Derived.Test.YtjdccoplpljmlaaGreatDoorVXL13toXFrN
import Derived.Test.YtjdccoplpljmlaaGreatDoorVXAv21toXAv25
import Derived.Shelf.Strings.SlTrimAscii
namespace Go.Av
open Go Go.RowKit Go.Proofs List
set_option linter.unusedSimpArgs false
set_option linter.unusedVariables false
def cut (p:U->Bool):List U->List U
 |[]=>[]
 |x::l=>if p x then x::cut p l else [x]
theorem jB {p:U->Bool}:∀{l:List U},l.all p=true->cut p l=l
 |[],_=>rfl
 |x::l,h=>by
  simp only[all_cons,Bool.and_eq_true]at h
  rw[cut,if_pos h.1,jB h.2]
theorem cut_app {p:U->Bool} {l m:List U} (h:l.all p=true):cut p (l++m)=l++cut p m:=by
 induction l with
 |nil=>rfl
 |cons x l ih=>
  simp only[all_cons,Bool.and_eq_true]at h
  rw[cons_append,cut,if_pos h.1,ih h.2];rfl
theorem oD {p:U->Bool} {l m:List U} (h:l.all p=false):cut p (l++m)=cut p l:=by
 induction l with
 |nil=>simp at h
 |cons x l ih=>
  rw[cons_append,cut,cut]
  split
  ·rename_i E
   simp only[all_cons,E,Bool.true_and]at h
   rw[ih h]
  ·rfl
theorem aG (u:U) (us:List U):U.flats (u::us)=u.flat++U.flats us:=by rw[U.flats]
theorem bl:U.flats []=[]:=by rw[U.flats]
theorem SubN.comm1 {σ:Store} {p:Nat×AObj}:SubN (σ++[p]) (p::σ):=by
 refine⟨λq J=>?_,λE=>?_⟩
 ·rcases mem_append.1 J with h|h
  ·exact mem_cons_of_mem _ h
  ·simp only[mem_singleton]at h;subst h;simp
 ·rw[aB]
  simp only[Store.keys,map_cons,nodup_cons,map_nil]at E ⊢
  refine nodup_append.2 ⟨E.2,by simp,?_⟩
  intro a I b F e
  simp only[mem_singleton]at F
  subst F e
  exact E.1 I
theorem SubN.left {σ τ:Store}:SubN σ (σ++τ):=by
 refine⟨λq F=>mem_append.2 (.inl F),λE=>?_⟩
 rw[aB]at E
 exact(nodup_append.1 E).1
theorem RET.mk {x:AV} {R:AV->Store->Prop} {σ σ':Store} (E:SubN σ' σ) (h:R x σ'):RET x σ R:=⟨x,σ',AVle.rfl' _,E,h⟩
theorem lk {u k x:U} (E:k∈u.kids) (F:x∈k.flat):x∈u.flat:=U.flat_kid E F
section
variable (G:Glob)
theorem f36 (f:Value) (p:U->Bool) (N:Nat) (St:List U->Store->Prop) (hN:N<1000000):
  ∀(u:U),u.Tame->(∀x∈u.flat,∀pre σ,St pre σ->pre.length<N->cn G Tryz.prog f [.agg x.cs] σ (λr σ'=>r= .bool (p x)/\St (pre++[x]) σ'))->
   ∀pre σ,St pre σ->pre.length+u.flat.length<=N->aj G Tryz.prog 36 [.agg u.cs,.sc f] σ (λr σ'=>r= .bool (u.flat.all p)/\St (pre++cut p u.flat) σ'):=by
 refine U.ind λu ih ht hf pre σ ad an=>?_
 have al:=ht.kids
 have E:=u.flat_eq
 have ah:u.flat.length=1+(U.flats u.kids).length:=by rw[E,length_cons];omega
 refine aj.w c36 ?_
 unfold s36 r36
 (repeat' (simp only[EVz,seval,↓reduceIte,EV6,EV7]))
 refine aP σ [] (hf u u.flat_self pre σ ad (by omega)) (aA.rfl' _) (by simpa using SubN.refl _) ?_
 rintro r σ' ⟨rfl,I⟩
 rw[append_nil]
 cases Z:p u
 ·(repeat' (simp only[EVz,seval,↓reduceIte,EV6,EV7]))
  exact RET.mk (SubN.refl _) ⟨by rw[E,all_cons,Z];rfl,by rw[E,cut,if_neg (by simp[Z])];exact I⟩
 ·(repeat' (first|simp only[EVz,seval,↓reduceIte,EV6,EV7,F.yes,F.le0,F.lt',F.get,F.row,hw]|simp only[EVz,seval,↓reduceIte,EV6,EV7,hn]|simp only[EVz,seval,↓reduceIte,EV6,EV7]|(with_reducible intro ac O;(try(have T:=O;simp only[EVK]at T;(have aw:=T))))|(refine ax (ι:=Store×List U) u.kids (λi r c=>St c.2 c.1/\pre++cut p u.flat=c.2++cut p (U.flats r)/\u.flat.all p=(U.flats r).all p/\c.2.length+(U.flats r).length<=N) (λi c=>[(1,.sc f),(12,.lst 8 (u.kids.map U.cs)),(13,.int .i64 u.kids.length),(14,.int .i64 i)]) (λi c=>c.1) (σ',pre++[u]) ⟨I,by rw[E,cut,if_pos Z];simp,by rw[E,all_cons,Z,Bool.true_and],by simp;omega⟩ (Weak.rfl' _ _) (by omega) (λi x r c M F hw=>?_) (λc M hn=>?_))))
  ·obtain⟨o1,X,Y,o4⟩:=M
   rw[aG]at X Y o4
   rw[length_append]at o4
   refine aP c.1 [(ac,.cells 29 x.cs)] (ih x F.mem (ht.kid F.mem) (λy hy=>hf y (lk F.mem hy)) c.2 c.1 o1 (by omega)).v (aA.rfl' _) SubN.comm1 ?_
   rintro r' ag ⟨rfl,J⟩
   cases V:x.flat.all p
   ·(repeat' (simp only[EVz,seval,↓reduceIte,EV6,EV7]))
    exact RET.mk SubN.left ⟨by rw[Y,all_append,V];rfl,by rw[X,oD V];exact J⟩
   ·(repeat' (simp only[EVz,seval,↓reduceIte,EV6,EV7,hw]))
    rw[jB V]at J
    exact am F (ag,c.2++x.flat) ⟨J,by rw[X,cut_app V,append_assoc],by rw[Y,all_append,V,Bool.true_and],by simp;omega⟩ (Weak.sub SubN.left)
  ·obtain⟨o1,X,Y,o4⟩:=M
   exact RET.mk (SubN.refl _) ⟨by rw[Y,bl];rfl,by rw[X,bl,cut,append_nil];exact o1⟩
theorem ku (f:Value) (p:U->Bool) (u:U) (F:u.Tame) (M:∀x∈u.flat,dV G Tryz.prog f [.agg x.cs] (.bool (p x))):Pure G Tryz.prog 36 [.agg u.cs,.sc f] (.bool (u.flat.all p)):=by
 refine aj.mono (f36 G f p u.flat.length (λ_ σ=>σ=[]) F.2 u F (λx N pre σ E _=>?_) [] [] rfl (by simp)) ?_
 ·subst E;exact M x N
 ·rintro r σ' ⟨I,J⟩;exact⟨I,J⟩
theorem v_clo {k:Nat} {b:Nat} {args:List AV} {σ:Store} {R:AV->Store->Prop} (h:aj G Tryz.prog k (args++[.sc (.pointer (some ⟨b,0,none⟩))]) σ R):cn G Tryz.prog (.func (.func k) #[] #[.pointer (some ⟨b,0,none⟩)]) args σ R:=
 ⟨k,#[],#[.pointer (some ⟨b,0,none⟩)],rfl,by simpa[AV.ofValue,AV.ofOne]using h⟩
theorem f78 (x:U) (b n:Nat) (F:n<1000000):aj G Tryz.prog 78 [.agg x.cs,.sc (.pointer (some ⟨b,0,none⟩))] [(b,.cells 3 [.int .i64 n])] (λr σ'=>r= .bool true/\σ'=[(b,.cells 3 [.int .i64 ((n+1:Nat):Int)])]):=by
 have E:IntKind.i64.wrap ((n:Int)+1)=((n+1:Nat):Int):=by rw[av (by omega) (by omega)];omega
 refine aj.w c78 ?_
 unfold s78 r78
 (repeat' (simp only[EVz,seval,↓reduceIte,EV6,EV7,E]))
 exact RET.mk (SubN.refl _) ⟨rfl,rfl⟩
theorem f39 (u:U) (J:u.Tame):Pure G Tryz.prog 39 [.agg u.cs] (.int .i64 u.cnt):=by
 refine Pure.w c39 λR T=>?_
 unfold s39 r39
 (repeat' (first|simp only[EVz,seval,↓reduceIte,EV6,EV7]|(with_reducible intro E F;(try(have I:=F;simp only[EVK]at I;(have V:=I))))))
 refine aP _ [] (f36 G (.func (.func 78) #[] #[.pointer (some ⟨E,0,none⟩)]) (λ_=>true) u.flat.length (λpre σ=>σ=[(E,.cells 3 [.int .i64 pre.length])]) J.2 u J (λx Z pre σ M Y=>?_) [] _ rfl (by simp)).v (aA.rfl' _) (by simpa using SubN.refl _) ?_
 ·subst M
  have X:=J.2
  refine v_clo G (aj.mono (f78 G x E pre.length (by omega)) ?_)
  rintro r σ' ⟨N,O⟩
  exact⟨N,by rw[O];simp⟩
 ·rintro r σ' ⟨rfl,rfl⟩
  rw[jB (by simp)]
  (repeat' (simp only[EVz,seval,↓reduceIte,EV6,EV7]))
  exact RET.eq T (by simp[U.cnt])
theorem f41 (x:U) (b:Nat) (g:Option Nat) (rows:List Idd) (v:AV) (X:v= .own g 25 3 (rows.map Idd.cs)\/v= .nil/\g=none/\rows=[]) (V:∀d,g=some d->d≠b) (Y:rows.length<1000000):
  aj G Tryz.prog 41 [.agg x.cs,.sc (.pointer (some ⟨b,0,none⟩))] ((b,.cells 32 [v])::tokS g 25 (rows.length*3))
   (λr σ'=>r= .bool true/\∃E,(∀d,E=some d->d≠b)/\σ'=(b,.cells 32 [.own E 25 3 ((rows++[x.id]).map Idd.cs)])::tokS E 25 ((rows.length+1)*3)):=by
 have key:∀E:Option Nat,(∀d,E=some d->d≠b)->∀σ,σ=(b,AObj.cells 32 [.own E 25 3 (rows.map Idd.cs++[x.id.cs])])::tokS E 25 ((rows.length+1)*3)->RET (.bool true) σ (λr σ'=>r= .bool true/\∃E,(∀d,E=some d->d≠b)/\σ'=(b,.cells 32 [.own E 25 3 ((rows++[x.id]).map Idd.cs)])::tokS E 25 ((rows.length+1)*3)):=by
  rintro E T σ rfl
  exact RET.mk (SubN.refl _) ⟨rfl,E,T,by simp⟩
 refine aj.w c41 ?_
 unfold s41 r41
 rcases X with rfl|⟨rfl,rfl,rfl⟩
 ·(repeat' (first|simp only[EVz,seval,↓reduceIte,EV6,EV7]|(with_reducible intro M F;(try(have I:=F;simp only[EVK]at I;(have O:=I))))|(refine app_rowK (n:=rows.length) (m':=(rows.length+1)*3) [_] (by rfl) (by simpa[Store.keys]using V) (by simp) rfl rfl rfl (by assumption) (by omega) (λN J=>?_))))
  exact key N (by simpa[Store.keys]using J) _ rfl
 ·(repeat' (first|simp only[EVz,seval,↓reduceIte,EV6,EV7]|(with_reducible intro M F;(try(have I:=F;simp only[EVK]at I;(have O:=I))))|(refine app_rowK (n:=0) (m':=3) [_] (by rfl) (by simp) (by simp) rfl rfl rfl (by assumption) (by omega) (λN J=>?_))))
  exact RET.mk (SubN.refl _) ⟨rfl,N,by simpa[Store.keys]using J,rfl⟩
theorem f10 (u:U) (M:u.Tame):Pure G Tryz.prog 10 [.agg u.cs] (.lst 3 (u.ids.map Idd.cs)):=by
 refine Pure.w c10 λR Z=>?_
 unfold s10 r10
 (repeat' (first|simp only[EVz,seval,↓reduceIte,EV6,EV7]|(with_reducible intro E F;(try(have I:=F;simp only[EVK]at I;(have ac:=I))))))
 refine aP _ [] (f36 G (.func (.func 41) #[] #[.pointer (some ⟨E,0,none⟩)]) (λ_=>true) u.flat.length (λpre σ=>∃v g,(v= .own g 25 3 ((pre.map U.id).map Idd.cs)\/v= .nil/\g=none/\pre.map U.id=[])/\(∀d,g=some d->d≠E)/\σ=(E,.cells 32 [v])::tokS g 25 ((pre.map U.id).length*3)) M.2 u M (λx hx pre σ N hp=>?_) [] _ ⟨.nil,none,.inr ⟨rfl,rfl,rfl⟩,by simp,rfl⟩ (by simp)).v (aA.rfl' _) (by rw[append_nil];exact SubN.refl _) ?_
 ·have hl:=M.2
  obtain⟨v,g,J,O,rfl⟩:=N
  refine v_clo G (aj.mono (f41 G x E g _ v J O (by simp;omega)) ?_)
  rintro r σ' ⟨X,T,Y,rfl⟩
  exact⟨X,_,T,.inl rfl,Y,by simp⟩
 ·rintro r σ' ⟨rfl,v,g,J,O,rfl⟩
  rw[jB (by simp)]at J ⊢
  simp only[nil_append,append_nil]at J ⊢
  rcases J with rfl|⟨rfl,rfl,V⟩
  ·(repeat' (simp only[EVz,seval,↓reduceIte,EV6,EV7]))
   exact Z _ _ (Or.inl (Or.inr ⟨rfl,by simp[U.ids]⟩))
  ·exact absurd V (by rw[U.flat_eq];simp)
end
def mset {κ:Type} (l:List κ):List (κ×AV):=l.map λx=>(x,AV.bool true)
theorem da {κ:Type} [DecidableEq κ] (k:κ):∀l:List κ,(aN k (mset l)).getD (.bool false)= .bool (decide (k∈l))
 |[]=>by simp[mset,aN]
 |x::l=>by
  simp only[mset,map_cons,aN]
  by_cases h:x=k
  ·subst h;simp
  ·rw[if_neg h]
   have:=da k l
   unfold mset at this
   rw[this]
   have:k≠x:=λe=>h e.symm
   simp[this]
theorem kN {κ:Type} [DecidableEq κ] (k:κ):∀l:List κ,bu k (.bool true) (mset l)=mset (if k∈l then l else l++[k])
 |[]=>by simp[mset,bu]
 |x::l=>by
  simp only[mset,map_cons,bu]
  by_cases h:x=k
  ·subst h;simp
  ·rw[if_neg h]
   have:=kN k l
   unfold mset at this
   rw[this]
   have E:k≠x:=λe=>h e.symm
   by_cases F:k∈l<;>simp[E,F]
abbrev CKey:=Int×List UInt8
def iU (k:CKey):List Value:=[.int .i64 k.1,.string ⟨⟨k.2⟩⟩]
def ckVal (k:CKey):Value:=.agg (iU k).toArray
def iR (k:Idd):List Value:=[.int .i64 k.act,.int .i64 k.item,.int .i64 k.n]
def idVal (k:Idd):Value:=.agg (iR k).toArray
def U.ck (u:U):CKey:=(u.kind,u.label)
theorem eqK_ck (a b:CKey):eqK [1,2] (iU a) (iU b)=some (decide (a=b)):=by
 obtain⟨E,F⟩:=a
 obtain⟨I,J⟩:=b
 simp only[iU,eqK,if_true,Option.map_some]
 congr 1
 rw[Bool.eq_iff_iff];simp
theorem eqK_id (a b:Idd):eqK [1,1,1] (iR a) (iR b)=some (decide (a=b)):=by
 rw[ml]
 simp only[iR,eqK,if_true,Option.map_some]
 congr 1
 rw[Bool.eq_iff_iff];simp
theorem mapK_ck:MapK Tryz.prog 110 ckVal:=
 iX (fs:=Tryz.prog.fieldsOf 110) (ks:=[1,2]) (by kernel_rfl) (by kernel_rfl) iU (λ_=>rfl) eqK_ck (λk v E n=>by
  simp only[iU,mem_cons,not_mem_nil,or_false]at E
  rcases E with rfl|rfl
  ·exact fk n _ _
  ·exact mo n _)
theorem mapK_id:MapK Tryz.prog 25 idVal:=
 iX (fs:=Tryz.prog.fieldsOf 25) (ks:=[1,1,1]) (by kernel_rfl) (by kernel_rfl) iR (λ_=>rfl) eqK_id (λk v E n=>by
  simp only[iR,mem_cons,not_mem_nil,or_false]at E
  rcases E with rfl|rfl|rfl<;>exact fk n _ _)
theorem rep_ck (k:Int) (s:List UInt8):∀τ w v,Rep τ w (.agg [.int .i64 k,.str s]) v->v=ckVal (k,s):=by
 intro τ w v h
 simp only[Rep,RepL]at h
 obtain⟨vs,rfl,_,u,us,E,rfl,I,F,rfl,rfl,rfl⟩:=h
 have:vs=vs.toList.toArray:=by simp
 rw[this,E];rfl
theorem rep_id (i:Idd):∀τ w v,Rep τ w (.agg [.int .i64 i.act,.int .i64 i.item,.int .i64 i.n]) v->v=idVal i:=by
 intro τ w v h
 simp only[Rep,RepL]at h
 obtain⟨vs,rfl,_,u,us,E,rfl,J,F,rfl,rfl,M,I,rfl,rfl,rfl⟩:=h
 have:vs=vs.toList.toArray:=by simp
 rw[this,E];rfl
theorem fW (c:List Idd):(bB idVal (mset c)).length=c.length:=by simp[bB,mset]
def Seen (l c:List Idd) (i:Nat):Prop:=(∀y,y∈c↔y∈l.take i)/\c.Nodup/\(c.length=i↔(l.take i).Nodup)/\c.length<=i
theorem seen_step {l c:List Idd} {i:Nat} {x:Idd} {r:List Idd} (O:Rest l i x r) (h:Seen l c i):Seen l (if x∈c then c else c++[x]) (i+1):=by
 obtain⟨I,M,N,T⟩:=h
 unfold Seen
 rw[O.take]
 by_cases E:x∈c
 ·rw[if_pos E]
  refine⟨λy=>?_,M,⟨λe=>by omega,λe=>?_⟩,by omega⟩
  ·rw[mem_append,←I]
   constructor
   ·exact .inl
   ·rintro(h|h)
    ·exact h
    ·simp only[mem_singleton]at h;subst h;exact E
  ·exact absurd rfl ((nodup_append.1 e).2.2 x ((I x).1 E) x (by simp))
 ·rw[if_neg E]
  refine⟨λy=>by rw[mem_append,mem_append,←I],nodup_append.2 ⟨M,by simp,?_⟩,?_,by simp;omega⟩
  ·intro a J b F e
   simp only[mem_singleton]at F
   subst F e
   exact E J
  ·rw[length_append,length_singleton]
   constructor
   ·intro e
    refine nodup_append.2 ⟨N.1 (by omega),by simp,?_⟩
    intro a J b F e
    simp only[mem_singleton]at F
    subst F e
    exact E ((I a).2 J)
   ·intro e
    have:=N.2 (nodup_append.1 e).1
    omega
theorem seen_all {l c:List Idd} (h:Seen l c l.length):(zId∈c/\c.length=1↔(l≠[]/\(l.all λx=>decide (x=zId))=true))/\(c.length=l.length↔l.Nodup):=by
 obtain⟨I,O,T,Z⟩:=h
 rw[take_length]at I T
 refine⟨⟨λ⟨M,N⟩=>?_,λ⟨M,N⟩=>?_⟩,T⟩
 ·obtain⟨a,rfl⟩:=length_eq_one_iff.1 N
  simp only[mem_singleton]at M
  subst M
  refine⟨λe=>?_,all_eq_true.2 λy J=>?_⟩
  ·have:=(I zId).1 (by simp);rw[e]at this;cases this
  ·have:=(I y).2 J
   simpa using this
 ·have E:∀y∈c,y=zId:=λy J=>by simpa using(all_eq_true.1 N) y ((I y).1 J)
  obtain⟨y,J⟩:=exists_mem_of_ne_nil _ M
  have F:=(I y).2 J
  have Y:=E y F
  subst Y
  refine⟨F,?_⟩
  match c,F,O,E with
  |[a],_,_,_=>rfl
  |a::b::c,_,O,E=>
   have V:=E a (by simp)
   have X:=E b (by simp)
   simp[V,X]at O
def own1 (u:U):Bool:=if u.kind=0 then decide (u.label=[])&&(decide ((u.head.length:Int)=0)&&decide ((u.words.length:Int)=0))else decide (0<=u.kind)&&decide (u.kind<=7)&&(bc u.label&&(aX u.head&&aX u.words))
def nodeOk (u:U):Bool:=own1 u&&((u.kids.all λk=>bt u.kind k.kind)&&decide (Apart u.kids)&&decide ((u.kids.length:Int)<=64))
theorem kt_nil (k:Int):((if 0<=k/\k<=7 then kindText k else [])=[])=¬(0<=k/\k<=7):=by
 apply propext
 split
 ·rename_i h
  refine⟨λe=>?_,λe=>absurd h e⟩
  rcases lt8 h.1 h.2 with rfl|rfl|rfl|rfl|rfl|rfl|rfl|rfl<;>cases e
 ·rename_i h;simp only[true_iff];exact h
theorem own_no0 {u:U} (h:u.kind=0) (E:u.label≠[]\/(0:Int)<(u.head.length:Int)+(u.words.length:Int)):own1 u=false:=by
 unfold own1;rw[if_pos h]
 rcases E with E|E
 ·simp[E]
 ·simp;intro _ e F;simp[e,F]at E
theorem own_yes0 {u:U} (h:u.kind=0) (E:¬u.label≠[]) (F:(u.head.length:Int)+(u.words.length:Int)<=0):own1 u=true:=by
 unfold own1;rw[if_pos h]
 simp only[Bool.and_eq_true,decide_eq_true_eq]
 exact⟨by simpa using E,by omega,by omega⟩
section
variable (G:Glob) (hG:GOk G)
include hG
theorem f37 (u:U) (ht:u.Tame) (hh:u.head.length<1000000) (X:u.words.length<1000000):Pure G Tryz.prog 37 [.agg u.cs] (.bool (nodeOk u)):=by
 have ag:=ht.kids
 have T:=f74 G hG
 refine Pure.w c37 λR J=>?_
 unfold s37 r37
 have I:IntKind.i64.wrap ((u.head.length:Int)+(u.words.length:Int))=(u.head.length:Int)+(u.words.length:Int):=av (by omega) (by omega)
 (repeat' (first|(with_reducible (first|refine ab (λh=>?_) (λh=>?_)|refine ai (λh=>?_) (λh=>?_))<;>(try simp only[DZ]at h))|(with_reducible first|refine aa (T _) ?_|refine aa (f75 G _) ?_|refine aa (f76 G _ hh) ?_|refine aa (f76 G _ X) ?_)|simp only[EVz,seval,↓reduceIte,EV6,EV7,I]))
 all_goals(try(refine cc ?_;intro Z ad))
 all_goals(try((repeat' (first|(with_reducible (first|refine ab (λh=>?_) (λh=>?_)|refine ai (λh=>?_) (λh=>?_))<;>(try simp only[DZ]at h))|(with_reducible refine aa (f77 G hG _ _) ?_)|simp only[EVz,seval,↓reduceIte,EV6,EV7,I,da,F.yes,F.le0,F.lt',F.get,F.row,hw,M]|simp only[EVz,seval,↓reduceIte,EV6,EV7,I,da,F.yes,F.le0,F.lt',F.get,F.row,hw]|simp only[EVz,seval,↓reduceIte,EV6,EV7,I,da,hn]|simp only[EVz,seval,↓reduceIte,EV6,EV7,I,da]|(with_reducible intro ac O;(try(have N:=O;simp only[EVK]at N;first|(have M:=AI N M)|(have M:=N))))|(refine ax u.kids (λi r (c:Unit)=>(u.kids.all λk=>bt u.kind k.kind)=(r.all λk=>bt u.kind k.kind)/\Apart (u.kids.take i)) (λi c=>[(1,.ref u.cs),(3,.sc (.map (some Z))),(47,.lst 8 (u.kids.map U.cs)),(48,.int .i64 u.kids.length),(49,.int .i64 i)]) (λi c=>[(Z,.map (bB ckVal (mset ((u.kids.take i).map U.ck))))]) () ⟨rfl,by simp[Apart]⟩ (Weak.rfl' _ _) (by omega) (λi x r c E F hw=>?_) (λc E hn=>?_))|(refine aC mapK_ck (l:=mset ((u.kids.take i).map U.ck)) (k:=x.ck) (z:=.bool false) (zv:=.bool false) rfl (rep_ck _ _) (eT:=4) (by kernel_rfl) (by simp[Store.get, *]) (by kernel_rfl) (λ_ _=>by simp only[Rep]) ?_)|(refine cr mapK_ck (l:=mset ((u.kids.take i).map U.ck)) (k:=x.ck) (yv:=.bool true) rfl (rep_ck _ _) rfl (eT:=4) (by kernel_rfl) (by simp[Store.get, *]) ?_)))))
 all_goals first
  |(rename_i V
    refine am F () ⟨by rw[E.1,all_cons,V,Bool.true_and],?_⟩ ?_
    ·refine apart_more F E.2 λy Y e=>h (mem_map.2 ⟨y,Y,?_⟩)
     unfold U.ck
     rw[e.1,e.2]
    ·rw[kN,if_neg h,show List.map U.ck (List.take i u.kids)++[x.ck]=List.map U.ck (List.take (i+1) u.kids)by rw[F.take];simp]
     exact Weak.sub ⟨λp hp=>mem_cons_of_mem _ (mem_cons_of_mem _ hp),λ_=>by simp[Store.keys]⟩)
  |(refine RET.eq J (congrArg AV.bool ?_)
    obtain⟨y,Y,e⟩:=mem_map.1 h
    unfold U.ck at e
    injection e with e1 e2
    unfold nodeOk
    rw[decide_eq_false (apart_no F Y e1 e2)]
    simp)
  |(refine RET.eq J (congrArg AV.bool ?_);unfold nodeOk;rw[E.1,all_cons,h];simp;done)
  |(refine RET.eq J (congrArg AV.bool ?_);unfold nodeOk;rw[own_no0 (by assumption) (.inr h)];rfl)
  |(refine RET.eq J (congrArg AV.bool ?_);unfold nodeOk;rw[own_no0 (by assumption) (.inl h)];rfl)
  |(rw[take_length]at E
    refine RET.eq J (congrArg AV.bool ?_);unfold nodeOk;rw[E.1,decide_eq_true E.2,own_yes0 (by assumption) (by assumption) h];rfl)
  |(rw[take_length]at E
    simp only[kt_nil,Classical.not_not]at*
    refine RET.eq J (congrArg AV.bool ?_);unfold nodeOk own1;rw[E.1,decide_eq_true E.2];simp[*];done)
  |(simp only[kt_nil,Classical.not_not]at*;refine RET.eq J (congrArg AV.bool ?_);unfold nodeOk own1;simp[*];done)
  |(simp only[kt_nil,Classical.not_not]at*;refine RET.eq J (congrArg AV.bool ?_);unfold nodeOk own1;simp[*];intros;omega)
  |skip
end
section
variable (G:Glob)
theorem f40 (u:U) (Y:u.Tame):Pure G Tryz.prog 40 [.agg u.cs] (.bool (idsOk u)):=by
 have X:=f10 G u Y
 have hl:u.ids.length<1000000:=by rw[U.ids_len];exact Y.2
 have h0:u.ids=u.id::U.idss u.kids:=U.ids_eq u
 refine Pure.w c40 λR O=>?_
 unfold s40 r40
 unfold idsOk at O
 obtain⟨l,J⟩:∃l,u.ids=l:=⟨_,rfl⟩
 rw[J]at O X hl
 (repeat' (first|(with_reducible refine aa X ?_)|simp only[EVz,seval,↓reduceIte,EV6,EV7]))
 refine cc ?_
 intro V ad
 (repeat' (first|(with_reducible (refine ai (λh=>?_) (λh=>?_))<;>(try simp only[DZ]at h))|simp only[EVz,seval,↓reduceIte,EV6,EV7,da,fW,idd_zero,E.yes,E.le0,E.lt',E.get,E.row,Z,T]|simp only[EVz,seval,↓reduceIte,EV6,EV7,da,fW,idd_zero,E.yes,E.le0,E.lt',E.get,E.row,Z]|simp only[EVz,seval,↓reduceIte,EV6,EV7,da,fW,idd_zero,hn]|simp only[EVz,seval,↓reduceIte,EV6,EV7,da,fW,idd_zero]|(with_reducible intro ac I;(try(have N:=I;simp only[EVK]at N;(have T:=N))))|(refine ax (ι:=List Idd) l (λi r c=>Seen l c i) (λi c=>[(1,.ref u.cs),(3,.lst 3 (l.map Idd.cs)),(4,.sc (.map (some V))),(11,.lst 3 (l.map Idd.cs)),(12,.int .i64 l.length),(13,.int .i64 i)]) (λi c=>[(V,.map (bB idVal (mset c)))]) [] (by simp[Seen]) (Weak.rfl' _ _) (by omega) (λi x r c F E Z=>?_) (λc F hn=>?_))|(refine aC mapK_id (l:=mset c) (k:=zId) (z:=.bool false) (zv:=.bool false) rfl (rep_id zId) (eT:=4) (by kernel_rfl) (by simp[Store.get, *]) (by kernel_rfl) (λ_ _=>by simp only[Rep]) ?_)|(refine cr mapK_id (l:=mset c) (k:=x) (yv:=.bool true) rfl (rep_id x) rfl (eT:=4) (by kernel_rfl) (by simp[Store.get, *]) ?_)|(refine oJ (es:=bB idVal (mset c)) (kT:=25) (eT:=4) rfl (by kernel_rfl) (by simp[Store.get]) ?_)))
 ·rw[kN]
  exact am E _ (seen_step E F) (Weak.sub ⟨λp hp=>mem_cons_of_mem _ hp,λ_=>by simp[Store.keys]⟩)
 all_goals
  have M:l≠[]:=by rw[←J,h0];simp
  obtain⟨s1,s2⟩:=seen_all F
  have hA:(l.all λx=>decide (x=zId))=(decide (zId∈c)&&decide ((c.length:Int)=1)):=by
   rw[Bool.eq_iff_iff,Bool.and_eq_true,decide_eq_true_eq,decide_eq_true_eq,show((c.length:Int)=1↔c.length=1)by omega,s1]
   exact⟨λh=>⟨M,h⟩,λh=>h.2⟩
  have hB:decide l.Nodup=decide ((c.length:Int)=(l.length:Int)):=by rw[decide_eq_decide,←s2];omega
  have hC:(decide (u.kind=0)==decide (u.id=zId))=decide (decide (u.id=zId)=decide (u.kind=0)):=by
   by_cases e1:u.kind=0<;>by_cases e2:u.id=zId<;>simp[e1,e2]
  refine RET.eq O (congrArg AV.bool ?_)
  (try rw[hC])
  rw[hA,hB]
  first|rw[decide_eq_true (p:=zId∈c) (by assumption)]|rw[decide_eq_false (p:=zId∈c) (by assumption)]
  (try(first|rw[decide_eq_true (p:=(c.length:Int)=1) (by assumption)]|rw[decide_eq_false (p:=(c.length:Int)=1) (by assumption)]))
  (try(first|rw[decide_eq_true (p:=(c.length:Int)=(l.length:Int)) (by assumption)]|rw[decide_eq_false (p:=(c.length:Int)=(l.length:Int)) (by assumption)]))
  simp
def cv (u:U):Bool:=u.flat.all nodeOk&&(decide (u.dep<=8)&&(decide (u.cnt<=1024)&&idsOk u))
def dy (w:Wd):Bool:=!decide (w.act=0/\w.item=0/\w.at_=0)
def cY (u:U):Bool:=decide (u.id=zId)&&(!u.head.any dy&& !u.words.any dy)
def gA (u:U):Bool:=cv u&&u.flat.all cY
end
section
variable (G:Glob) (hG:GOk G)
theorem ig {us:List U} {x:U} (h:x∈U.flats us):∃k∈us,x∈k.flat:=by
 induction us with
 |nil=>rw[bl]at h;cases h
 |cons a us ih=>
  rw[aG]at h
  rcases mem_append.1 h with h|h
  ·exact⟨a,by simp,h⟩
  ·obtain⟨k,E,F⟩:=ih h;exact⟨k,by simp[E],F⟩
theorem U.Tame.node:∀{u:U},u.Tame->∀x∈u.flat,x.Tame:=by
 intro u
 induction u using U.ind with
 |h u ih=>
  intro I x E
  rw[U.flat_eq]at E
  rcases mem_cons.1 E with rfl|E
  ·exact I
  ·obtain⟨k,F,E⟩:=ig E
   exact ih k F (I.kid F) x E
include hG in
theorem f9 (u:U) (I:u.Short):Pure G Tryz.prog 9 [.agg u.cs] (.bool (cv u)):=by
 have E:=I.1
 have M:Pure G Tryz.prog 36 [.agg u.cs,.sc (.func (.func 37) #[] #[])] (.bool (u.flat.all nodeOk)):=
  ku G _ nodeOk u E λx J=>(f37 G hG x (E.node x J) (I.2 x J).2.1 (I.2 x J).2.2.1).v
 refine Pure.w c9 λR F=>?_
 unfold s9 r9
 unfold cv at F
 generalize u.flat.all nodeOk=q at*
 (repeat' (first|(with_reducible (refine ai (λh=>?_) (λh=>?_))<;>(try simp only[DZ]at h))|(with_reducible first|refine aa M ?_|refine aa (f38 G u E) ?_|refine aa (f39 G u E) ?_|refine aa (f40 G u E) ?_)|simp only[EVz,seval,↓reduceIte,EV6,EV7]))
 (all_goals(first|(refine RET.eq F ?_;(refine congrArg AV.bool (Bool.eq_iff_iff.2 ?_);simp only[EVB]at*;omega))|(refine RET.eq F ?_;((simp_all[];done)))))
theorem f257 (w:Wd):Pure G Tryz.prog 257 [.agg w.cs] (.bool (dy w)):=by
 refine Pure.w c257 λR E=>?_
 unfold s257 r257
 (repeat' (simp only[EVz,seval,↓reduceIte,EV6,EV7]))
 (all_goals(((refine RET.eq E ?_;((simp_all[dy];done))))))
theorem f256 (u:U) (N:u.head.length<1000000) (M:u.words.length<1000000):Pure G Tryz.prog 256 [.agg u.cs] (.bool (cY u)):=by
 have F:=λw=>(f257 G w).v
 have I:=f258 G _ dy u.head (by omega) (λx _=>F x)
 have J:=f258 G _ dy u.words (by omega) (λx _=>F x)
 refine Pure.w c256 λR E=>?_
 unfold s256 r256
 unfold cY at E
 generalize u.head.any dy=q1 at*
 generalize u.words.any dy=q2 at*
 (repeat' (first|(with_reducible (refine ai (λh=>?_) (λh=>?_))<;>(try simp only[DZ]at h))|(with_reducible first|refine aa I ?_|refine aa J ?_)|simp only[EVz,seval,↓reduceIte,EV6,EV7,idd_zero]))
 (all_goals(((refine RET.eq E ?_;((simp_all[];done))))))
include hG in
theorem f204 (u:U) (E:u.Short):Pure G Tryz.prog 204 [.agg u.cs] (.bool (gA u)):=by
 have M:=E.1
 have J:Pure G Tryz.prog 36 [.agg u.cs,.sc (.func (.func 256) #[] #[])] (.bool (u.flat.all cY)):=
  ku G _ cY u M λx I=>(f256 G x (E.2 x I).2.1 (E.2 x I).2.2.1).v
 refine Pure.w c204 λR F=>?_
 unfold s204 r204
 unfold gA at F
 generalize u.flat.all cY=q at*
 (repeat' (first|(with_reducible (refine ai (λh=>?_) (λh=>?_))<;>(try simp only[DZ]at h))|(with_reducible first|refine aa J ?_|refine aa (f9 G hG u E) ?_)|simp only[EVz,seval,↓reduceIte,EV6,EV7]))
 (all_goals(((refine RET.eq F ?_;((simp_all[];done))))))
end
def eA:List UInt8:=[97,98,99,100,101,102,103,104,105,106,107,108,109,110,111,112,113,114,115,116,117,118,119,120,121,122,48,49,50,51,52,53,54,55,56,57,45]
theorem ol (c:UInt8):eA.contains c=kA c:=by
 have key:∀n:Fin 256,eA.contains (UInt8.ofNat n.val)=kA (UInt8.ofNat n.val):=by decide+kernel
 have:=key ⟨c.toNat,c.toNat_lt⟩
 simpa using this
theorem eI {α:Type} (p:α->Bool):∀l:List α,l.dropWhile p=[]↔l.all p=true
 |[]=>by simp
 |x::l=>by
  rw[dropWhile_cons,all_cons]
  split
  ·rename_i h;rw[eI p l,h,Bool.true_and]
  ·rename_i h;simp[h]
theorem trimS_nil (l cs:List UInt8):Lib.trimS l cs=[]↔(l.all λc=>cs.contains c)=true:=by
 unfold Lib.trimS Lib.trimLeftS Lib.trimRightS
 rw[eI,all_reverse]
 constructor
 ·intro h
  have E:l.reverse.all (λc=>cs.contains c)=true:=by
   rw[←takeWhile_append_dropWhile (p:=λc=>cs.contains c) (l:=l.reverse),all_append,h,Bool.and_true]
   exact all_takeWhile
  rwa [all_reverse]at E
 ·intro h
  have E:l.reverse.dropWhile (λc=>cs.contains c)=[]:=(eI _ _).2 (by rw[all_reverse];exact h)
  rw[E];rfl
section
variable (G:Glob)
theorem f175 (s:List UInt8) (O:s.length<1000000000000000000):Pure G Tryz.prog 175 [.str s,.str eA] (.str (Lib.trimS s eA)):=by
 refine Pure.of_calls Tryz.func175 (by kernel_rfl) (by kernel_rfl) λτ w vs N J=>?_
 obtain⟨u,v,rfl,F,I⟩:=g8 J
 simp only[Rep]at F I
 subst F I
 refine⟨.string ⟨⟨Lib.trimS s eA⟩⟩,λ_ _=>by simp only[Rep],?_⟩
 have E:(⟨⟨s⟩⟩:ByteArray).size=s.length:=rfl
 refine(Any.strings_Trim_laid Tryz.lays160 (by kernel_rfl) ⟨⟨s⟩⟩ ⟨⟨eA⟩⟩ w (by rw[E];omega) (by decide) (ascii_of_all (by decide))).mono ?_
 rintro e w' ⟨rfl,M⟩
 exact⟨rfl,M⟩
theorem f118 (s:List UInt8) (J:s.length<1000000000000000000):Pure G Tryz.prog 118 [.str s] (.bool (gS s)):=by
 have F:=f175 G s J
 have I:decide (Lib.trimS s eA=[])=s.all kA:=by
  rw[Bool.eq_iff_iff,decide_eq_true_eq,trimS_nil]
  simp only[ol]
 unfold eA at F I
 refine Pure.w c118 λR E=>?_
 unfold s118 r118
 unfold gS at E
 generalize s.all kA=q at*
 (repeat' (first|(with_reducible (first|refine ab (λh=>?_) (λh=>?_)|refine ai (λh=>?_) (λh=>?_))<;>(try simp only[DZ]at h))|(with_reducible first|refine AI (by omega) ?_|refine aa F ?_)|simp only[EVz,seval,↓reduceIte,EV6,EV7,I]))
 (all_goals(first|(refine RET.eq E ?_;(refine congrArg AV.bool (Bool.eq_iff_iff.2 ?_);simp only[isLow,EVB]at*;omega))|(refine RET.eq E ?_;((simp_all[isLow];done)))))
theorem f119 (s:Sta) (F:s.event.length<1000000000000000000):Pure G Tryz.prog 119 [.agg [.int .i64 s.kind,.int .i64 s.day,.str s.event]] (.bool (l6 s)):=by
 refine Pure.w c119 λR E=>?_
 unfold s119 r119
 (repeat' (first|(with_reducible (first|refine ab (λh=>?_) (λh=>?_)|refine ai (λh=>?_) (λh=>?_))<;>(try simp only[DZ]at h))|(with_reducible first|refine aa (f118 G _ F) ?_|refine aa (f170 G _ _ _) ?_)|simp only[EVz,seval,↓reduceIte,EV6,EV7]|(exfalso;omega)))
 (all_goals(((refine RET.eq E ?_;((simp_all[l6];done))))))
end
mutual
def Itm.fit:Itm->Prop
 |⟨_,a,t,_,_,u,o,w,_,_,_,_,_,_,_,b⟩=>a.length<1000000000000000000/\t.length<1000000000000000000/\u.fit/\o.length<1000000000000000000/\w.length<1000000000000000000/\b.length<1000000000000000000/\Itm.fits b
def Itm.fits:List Itm->Prop
 |[]=>True
 |u::us=>Itm.fit u/\Itm.fits us
end
theorem Itm.fits_iff:∀{us:List Itm},Itm.fits us↔∀k∈us,k.fit
 |[]=>by simp[Itm.fits]
 |u::us=>by simp[Itm.fits,Itm.fits_iff (us:=us)]
theorem Itm.fit_eq (u:Itm):u.fit↔u.at_.length<1000000000000000000/\u.to_.length<1000000000000000000/\u.unit.fit/\u.old.length<1000000000000000000/\u.new.length<1000000000000000000/\u.by_.length<1000000000000000000/\∀k∈u.by_,k.fit:=by
 cases u
 rw[Itm.fit,Itm.fits_iff]
def bS (l:List (List UInt8)):Bool:=l.all λs=>decide ((s.length:Int)<=100)
def bU (l:List Stp):Bool:=l.all λs=>decide ((s.label.length:Int)<=100)
theorem gJ (x:List UInt8) (r:List (List UInt8)):bS (x::r)=(decide ((x.length:Int)<=100)&&bS r):=rfl
theorem gF (x:Stp) (r:List Stp):bU (x::r)=(decide ((x.label.length:Int)<=100)&&bU r):=rfl
def Itm.few0 (x:Itm):Bool:=
 decide ((x.at_.length:Int)<=12)&&(decide ((x.to_.length:Int)<=12)&&(decide ((x.old.length:Int)<=300)&&(decide ((x.new.length:Int)<=300)&&(decide ((x.label.length:Int)<=100)&&
 (decide ((x.for_.length:Int)<=100)&&(decide ((x.start.event.length:Int)<=100)&&(decide ((x.event.length:Int)<=100)&&(decide ((x.by_.length:Int)<=2)&&x.unit.few 30))))))))
def iV (x:Itm):Bool:=match x.by_ with
 |[]=>false
 |y::_=>decide (0<(y.by_.length:Int))
mutual
def Itm.few:Itm->Bool
 |⟨k,a,t,wh,n,u,o,w,l,f,s,ac,it,d,e,b⟩=>Itm.few0 ⟨k,a,t,wh,n,u,o,w,l,f,s,ac,it,d,e,b⟩&&(bS o&&(bS w&&(bU a&&(bU t&&Itm.fews b))))
def Itm.fews:List Itm->Bool
 |[]=>true
 |x::l=>(!iV x&&Itm.few x)&&Itm.fews l
end
theorem Itm.fews_cons (x:Itm) (l:List Itm):Itm.fews (x::l)=((!iV x&&x.few)&&Itm.fews l):=by rw[Itm.fews]
theorem Itm.few_eq (x:Itm):x.few=(x.few0&&(bS x.old&&(bS x.new&&(bU x.at_&&(bU x.to_&&Itm.fews x.by_))))):=by cases x;rw[Itm.few]
section
variable (G:Glob)
set_option maxHeartbeats 4000000 in
theorem f68:∀(x:Itm),x.fit->Pure G Tryz.prog 68 [.agg x.cs] (.bool x.few):=by
 refine Itm.ind λit ih T=>?_
 obtain⟨h1,h2,h3,h4,h5,h6,V⟩:=(Itm.fit_eq it).1 T
 refine Pure.w c68 λR I=>?_
 unfold s68 r68
 rw[Itm.few_eq]at I
 (repeat' (first|(with_reducible (first|refine ab (λh=>?_) (λh=>?_)|refine ai (λh=>?_) (λh=>?_))<;>(try simp only[DZ]at h))|(with_reducible refine aa (f43 G it.unit 30 h3 (by omega) (by omega)) ?_)|simp only[EVz,seval,↓reduceIte,EV6,EV7,U.cs_fold,F.yes,F.le0,F.lt',F.get,F.row,M]|simp only[EVz,seval,↓reduceIte,EV6,EV7,U.cs_fold,N]|simp only[EVz,seval,↓reduceIte,EV6,EV7,U.cs_fold]|(refine am F () ?_ (Weak.rfl' _ _))|(refine ax (it.old) (λi r (c:Unit)=>bS it.old=bS r) (λi c=>[(1,.ref it.cs),(3,.int .i64 i)]) (λ_ _=>[]) () (by rfl) (Weak.rfl' _ _) (by omega) (λi x r c E F M=>?_) (λc E N=>?_))|(refine ax (it.new) (λi r (c:Unit)=>bS it.new=bS r) (λi c=>[(1,.ref it.cs),(4,.int .i64 i)]) (λ_ _=>[]) () (by rfl) (Weak.rfl' _ _) (by omega) (λi x r c E F M=>?_) (λc E N=>?_))|(refine ax (it.at_) (λi r (c:Unit)=>bU it.at_=bU r) (λi c=>[(1,.ref it.cs),(5,.int .i64 i)]) (λ_ _=>[]) () (by rfl) (Weak.rfl' _ _) (by omega) (λi x r c E F M=>?_) (λc E N=>?_))|(refine ax (it.to_) (λi r (c:Unit)=>bU it.to_=bU r) (λi c=>[(1,.ref it.cs),(6,.int .i64 i)]) (λ_ _=>[]) () (by rfl) (Weak.rfl' _ _) (by omega) (λi x r c E F M=>?_) (λc E N=>?_))))
 all_goals first
  |(rw[E,gJ,decide_eq_true h,Bool.true_and];done)
  |(rw[E,gF,decide_eq_true h,Bool.true_and];done)
  |(refine RET.eq I (congrArg AV.bool ?_);rw[E,gJ,decide_eq_false (by omega)];simp;done)
  |(refine RET.eq I (congrArg AV.bool ?_);rw[E,gF,decide_eq_false (by omega)];simp;done)
  |(refine RET.eq I (congrArg AV.bool ?_);simp only[Itm.few0, *,decide_true,decide_false,Bool.true_and,Bool.false_and,Bool.and_false];done)
  |(refine RET.eq I (congrArg AV.bool ?_);unfold Itm.few0;rw[decide_eq_false (Int.not_le.2 h)];simp only[Bool.false_and,Bool.and_false];done)
  |skip
 have X:it.few0=true:=by simp only[Itm.few0, *,decide_true,Bool.true_and]
 have Y:bS it.old=bS []:=by assumption
 have Z:bS it.new=bS []:=by assumption
 have e3:bU it.at_=bU []:=by assumption
 rw[X,Y,Z,e3,E]at I
 clear E
 refine ax (it.by_) (λi r (c:Unit)=>Itm.fews it.by_=Itm.fews r) (λi c=>[(1,.ref it.cs),(7,.int .i64 i)]) (λ_ _=>[]) () rfl (Weak.rfl' _ _) (by omega) (λi x r c E F M=>?_) (λc E N=>?_)
 ·rw[Itm.fews_cons]at E
  rcases J:x.by_ with _|⟨y,ys⟩
  ·have O:iV x=false:=by unfold iV;rw[J]
   (repeat' (first|(with_reducible (refine ab (λh=>?_) (λh=>?_))<;>(try simp only[DZ]at h))|(with_reducible refine aa (ih x F.mem (V x F.mem)) ?_)|simp only[EVz,seval,↓reduceIte,EV6,EV7,F.yes,F.le0,F.lt',F.get,F.row,M,J,map_nil,length_nil]|(refine am F () ?_ (Weak.rfl' _ _))))
   ·exact RET.eq I (by rw[E,O,h];rfl)
   ·rw[E,O,h];rfl
  ·have O:iV x=decide (0<(y.by_.length:Int)):=by unfold iV;rw[J]
   (repeat' (first|(with_reducible (first|refine ab (λh=>?_) (λh=>?_)|refine ai (λh=>?_) (λh=>?_))<;>(try simp only[DZ]at h))|(with_reducible first|refine AI (by omega) ?_|refine aa (ih x F.mem (V x F.mem)) ?_)|simp only[EVz,seval,↓reduceIte,EV6,EV7,F.yes,F.le0,F.lt',F.get,F.row,M,J,map_cons,getD_cons_zero,length_cons]|(refine am F () ?_ (Weak.rfl' _ _))|(exfalso;omega)))
   all_goals first
    |(refine RET.eq I (congrArg AV.bool ?_);rw[E,O,decide_eq_true h];rfl)
    |(refine RET.eq I (congrArg AV.bool ?_);rw[E,h,Bool.and_false];rfl)
    |(rename_i ac;rw[E,O,h,decide_eq_false (by omega)];rfl)
    |trace_state
 ·(repeat' (simp only[EVz,seval,↓reduceIte,EV6,EV7,N]))
  exact RET.eq I (by rw[E,Itm.fews];rfl)
end
end Go.Av
