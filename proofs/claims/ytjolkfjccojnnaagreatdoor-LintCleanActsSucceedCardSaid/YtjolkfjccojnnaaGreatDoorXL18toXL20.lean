/-
  LINT, 18: a function value asked at every node of a tree.
-/
import Derived.Test.YtjolkfjccojnnaaGreatDoorXL16toXFrN
import Derived.Test.YtjolkfjccojnnaaGreatDoorXAv21toXAv25
import Derived.Shelf.Strings.SlTrimAscii
namespace Go.Av
open Go Go.RowKit Go.Proofs List
set_option linter.unusedSimpArgs false
set_option linter.unusedVariables false
def cut (p:U->Bool):List U->List U
 |[]=>[]
 |x::l=>if p x then x::cut p l else [x]
theorem kd {p:U->Bool}:∀{l:List U},l.all p=true->cut p l=l
 |[],_=>rfl
 |x::l,h=>by
  simp only[all_cons,Bool.and_eq_true]at h
  rw[cut,if_pos h.1,kd h.2]
theorem cut_app {p:U->Bool} {l m:List U} (h:l.all p=true):cut p (l++m)=l++cut p m:=by
 induction l with
 |nil=>rfl
 |cons x l ih=>
  simp only[all_cons,Bool.and_eq_true]at h
  rw[cons_append,cut,if_pos h.1,ih h.2];rfl
theorem oY {p:U->Bool} {l m:List U} (h:l.all p=false):cut p (l++m)=cut p l:=by
 induction l with
 |nil=>simp at h
 |cons x l ih=>
  rw[cons_append,cut,cut]
  split
  ·rename_i hx
   simp only[all_cons,hx,Bool.true_and]at h
   rw[ih h]
  ·rfl
theorem aD (u:U) (us:List U):U.flats (u::us)=u.flat++U.flats us:=by rw[U.flats]
theorem bt:U.flats []=[]:=by rw[U.flats]
theorem SubN.comm1 {σ:Store} {p:Nat×AObj}:SubN (σ++[p]) (p::σ):=by
 refine⟨λq hq=>?_,λhn=>?_⟩
 ·rcases mem_append.1 hq with h|h
  ·exact mem_cons_of_mem _ h
  ·simp only[mem_singleton]at h;subst h;simp
 ·rw[aA]
  simp only[Store.keys,map_cons,nodup_cons,map_nil]at hn ⊢
  refine nodup_append.2 ⟨hn.2,by simp,?_⟩
  intro a ha b hb e
  simp only[mem_singleton]at hb
  subst hb e
  exact hn.1 ha
theorem SubN.left {σ τ:Store}:SubN σ (σ++τ):=by
 refine⟨λq hq=>mem_append.2 (.inl hq),λhn=>?_⟩
 rw[aA]at hn
 exact(nodup_append.1 hn).1
theorem RET.mk {x:AV} {R:AV->Store->Prop} {σ σ':Store} (hs:SubN σ' σ) (h:R x σ'):RET x σ R:=⟨x,σ',AVle.rfl' _,hs,h⟩
theorem mg {u k x:U} (hk:k∈u.kids) (hx:x∈k.flat):x∈u.flat:=U.flat_kid hk hx
section
variable (G:Glob)
theorem f175 (f:Value) (p:U->Bool) (N:Nat) (St:List U->Store->Prop) (hN:N<1000000):
  ∀(u:U),u.Tame->(∀x∈u.flat,∀pre σ,St pre σ->pre.length<N->cZ G Tryz.prog f [.agg x.cs] σ (λr σ'=>r= .bool (p x)/\St (pre++[x]) σ'))->
   ∀pre σ,St pre σ->pre.length+u.flat.length<=N->aj G Tryz.prog 175 [.agg u.cs,.sc f] σ (λr σ'=>r= .bool (u.flat.all p)/\St (pre++cut p u.flat) σ'):=by
 refine U.ind λu ih ht hf pre σ hSt hle=>?_
 have hkl:=ht.kids
 have hfl:=u.flat_eq
 have hlen:u.flat.length=1+(U.flats u.kids).length:=by rw[hfl,length_cons];omega
 refine aj.w c175 ?_
 unfold s175 r175
 (repeat' (simp only[EVz,seval,↓reduceIte,EV6,EV7]))
 refine bg σ [] (hf u u.flat_self pre σ hSt (by omega)) (aB.rfl' _) (by simpa using SubN.refl _) ?_
 rintro r σ' ⟨rfl,hSt'⟩
 rw[append_nil]
 cases hp:p u
 ·(repeat' (simp only[EVz,seval,↓reduceIte,EV6,EV7]))
  exact RET.mk (SubN.refl _) ⟨by rw[hfl,all_cons,hp];rfl,by rw[hfl,cut,if_neg (by simp[hp])];exact hSt'⟩
 ·(repeat' (first|simp only[EVz,seval,↓reduceIte,EV6,EV7,hx.yes,hx.le0,hx.lt',hx.get,hx.row,hw]|simp only[EVz,seval,↓reduceIte,EV6,EV7,hn]|simp only[EVz,seval,↓reduceIte,EV6,EV7]|(with_reducible intro blk hblk;(try(have hnx:=hblk;simp only[EVK]at hnx;(have hne:=hnx))))|(refine Zq (ι:=Store×List U) u.kids (λi r c=>St c.2 c.1/\pre++cut p u.flat=c.2++cut p (U.flats r)/\u.flat.all p=(U.flats r).all p/\c.2.length+(U.flats r).length<=N) (λi c=>[(1,.sc f),(12,.lst 8 (u.kids.map U.cs)),(13,.int .i64 u.kids.length),(14,.int .i64 i)]) (λi c=>c.1) (σ',pre++[u]) ⟨hSt',by rw[hfl,cut,if_pos hp];simp,by rw[hfl,all_cons,hp,Bool.true_and],by simp;omega⟩ (Weak.rfl' _ _) (by omega) (λi x r c hok hx hw=>?_) (λc hok hn=>?_))|fail))
  ·obtain⟨o1,o2,o3,o4⟩:=hok
   rw[aD]at o2 o3 o4
   rw[length_append]at o4
   refine bg c.1 [(blk,.cells 27 x.cs)] (ih x hx.mem (ht.kid hx.mem) (λy hy=>hf y (mg hx.mem hy)) c.2 c.1 o1 (by omega)).v (aB.rfl' _) SubN.comm1 ?_
   rintro r' σ2 ⟨rfl,hS2⟩
   cases hq:x.flat.all p
   ·(repeat' (simp only[EVz,seval,↓reduceIte,EV6,EV7]))
    exact RET.mk SubN.left ⟨by rw[o3,all_append,hq];rfl,by rw[o2,oY hq];exact hS2⟩
   ·(repeat' (simp only[EVz,seval,↓reduceIte,EV6,EV7,hw]))
    rw[kd hq]at hS2
    exact af hx (σ2,c.2++x.flat) ⟨hS2,by rw[o2,cut_app hq,append_assoc],by rw[o3,all_append,hq,Bool.true_and],by simp;omega⟩ (Weak.sub SubN.left)
  ·obtain⟨o1,o2,o3,o4⟩:=hok
   exact RET.mk (SubN.refl _) ⟨by rw[o3,bt];rfl,by rw[o2,bt,cut,append_nil];exact o1⟩
theorem lJ (f:Value) (p:U->Bool) (u:U) (ht:u.Tame) (hf:∀x∈u.flat,fL G Tryz.prog f [.agg x.cs] (.bool (p x))):Pure G Tryz.prog 175 [.agg u.cs,.sc f] (.bool (u.flat.all p)):=by
 refine aj.mono (f175 G f p u.flat.length (λ_ σ=>σ=[]) ht.2 u ht (λx hx pre σ hσ _=>?_) [] [] rfl (by simp)) ?_
 ·subst hσ;exact hf x hx
 ·rintro r σ' ⟨h1,h2⟩;exact⟨h1,h2⟩
theorem v_clo {k:Nat} {b:Nat} {args:List AV} {σ:Store} {R:AV->Store->Prop} (h:aj G Tryz.prog k (args++[.sc (.pointer (some ⟨b,0,none⟩))]) σ R):cZ G Tryz.prog (.func (.func k) #[] #[.pointer (some ⟨b,0,none⟩)]) args σ R:=
 ⟨k,#[],#[.pointer (some ⟨b,0,none⟩)],rfl,by simpa[AV.ofValue,AV.ofOne]using h⟩
theorem f176 (x:U) (b n:Nat) (hn:n<1000000):aj G Tryz.prog 176 [.agg x.cs,.sc (.pointer (some ⟨b,0,none⟩))] [(b,.cells 3 [.int .i64 n])] (λr σ'=>r= .bool true/\σ'=[(b,.cells 3 [.int .i64 ((n+1:Nat):Int)])]):=by
 have hw:IntKind.i64.wrap ((n:Int)+1)=((n+1:Nat):Int):=by rw[au (by omega) (by omega)];omega
 refine aj.w c176 ?_
 unfold s176 r176
 (repeat' (simp only[EVz,seval,↓reduceIte,EV6,EV7,hw]))
 exact RET.mk (SubN.refl _) ⟨rfl,rfl⟩
theorem f109 (u:U) (ht:u.Tame):Pure G Tryz.prog 109 [.agg u.cs] (.int .i64 u.cnt):=by
 refine Pure.w c109 λR hR=>?_
 unfold s109 r109
 (repeat' (first|simp only[EVz,seval,↓reduceIte,EV6,EV7]|(with_reducible intro blk hblk;(try(have hnx:=hblk;simp only[EVK]at hnx;(have hne:=hnx))))|fail))
 refine bg _ [] (f175 G (.func (.func 176) #[] #[.pointer (some ⟨blk,0,none⟩)]) (λ_=>true) u.flat.length (λpre σ=>σ=[(blk,.cells 3 [.int .i64 pre.length])]) ht.2 u ht (λx hx pre σ hσ hp=>?_) [] _ rfl (by simp)).v (aB.rfl' _) (by simpa using SubN.refl _) ?_
 ·subst hσ
  have hl:=ht.2
  refine v_clo G (aj.mono (f176 G x blk pre.length (by omega)) ?_)
  rintro r σ' ⟨h1,h2⟩
  exact⟨h1,by rw[h2];simp⟩
 ·rintro r σ' ⟨rfl,rfl⟩
  rw[kd (by simp)]
  (repeat' (simp only[EVz,seval,↓reduceIte,EV6,EV7]))
  exact RET.eq hR (by simp[U.cnt])
theorem f177 (x:U) (b:Nat) (g:Option Nat) (rows:List Idd) (v:AV) (hv:v= .own g 23 3 (rows.map Idd.cs)\/v= .nil/\g=none/\rows=[]) (hg:∀d,g=some d->d≠b) (hn:rows.length<1000000):
  aj G Tryz.prog 177 [.agg x.cs,.sc (.pointer (some ⟨b,0,none⟩))] ((b,.cells 72 [v])::tokS g 23 (rows.length*3))
   (λr σ'=>r= .bool true/\∃g',(∀d,g'=some d->d≠b)/\σ'=(b,.cells 72 [.own g' 23 3 ((rows++[x.id]).map Idd.cs)])::tokS g' 23 ((rows.length+1)*3)):=by
 have key:∀g':Option Nat,(∀d,g'=some d->d≠b)->∀σ,σ=(b,AObj.cells 72 [.own g' 23 3 (rows.map Idd.cs++[x.id.cs])])::tokS g' 23 ((rows.length+1)*3)->RET (.bool true) σ (λr σ'=>r= .bool true/\∃g',(∀d,g'=some d->d≠b)/\σ'=(b,.cells 72 [.own g' 23 3 ((rows++[x.id]).map Idd.cs)])::tokS g' 23 ((rows.length+1)*3)):=by
  rintro g' h1 σ rfl
  exact RET.mk (SubN.refl _) ⟨rfl,g',h1,by simp⟩
 refine aj.w c177 ?_
 unfold s177 r177
 rcases hv with rfl|⟨rfl,rfl,rfl⟩
 ·(repeat' (first|simp only[EVz,seval,↓reduceIte,EV6,EV7]|(with_reducible intro blk hblk;(try(have hnx:=hblk;simp only[EVK]at hnx;(have hne:=hnx))))|(refine dr (n:=rows.length) (m':=(rows.length+1)*3) [_] (by rfl) (by simpa[Store.keys]using hg) (by simp) rfl rfl rfl (by assumption) (by omega) (λgn hgn=>?_))|fail))
  exact key gn (by simpa[Store.keys]using hgn) _ rfl
 ·(repeat' (first|simp only[EVz,seval,↓reduceIte,EV6,EV7]|(with_reducible intro blk hblk;(try(have hnx:=hblk;simp only[EVK]at hnx;(have hne:=hnx))))|(refine dr (n:=0) (m':=3) [_] (by rfl) (by simp) (by simp) rfl rfl rfl (by assumption) (by omega) (λgn hgn=>?_))|fail))
  exact RET.mk (SubN.refl _) ⟨rfl,gn,by simpa[Store.keys]using hgn,rfl⟩
theorem f110 (u:U) (ht:u.Tame):Pure G Tryz.prog 110 [.agg u.cs] (.lst 3 (u.ids.map Idd.cs)):=by
 refine Pure.w c110 λR hR=>?_
 unfold s110 r110
 (repeat' (first|simp only[EVz,seval,↓reduceIte,EV6,EV7]|(with_reducible intro blk hblk;(try(have hnx:=hblk;simp only[EVK]at hnx;(have hne:=hnx))))|fail))
 refine bg _ [] (f175 G (.func (.func 177) #[] #[.pointer (some ⟨blk,0,none⟩)]) (λ_=>true) u.flat.length (λpre σ=>∃v g,(v= .own g 23 3 ((pre.map U.id).map Idd.cs)\/v= .nil/\g=none/\pre.map U.id=[])/\(∀d,g=some d->d≠blk)/\σ=(blk,.cells 72 [v])::tokS g 23 ((pre.map U.id).length*3)) ht.2 u ht (λx hx pre σ hσ hp=>?_) [] _ ⟨.nil,none,.inr ⟨rfl,rfl,rfl⟩,by simp,rfl⟩ (by simp)).v (aB.rfl' _) (by rw[append_nil];exact SubN.refl _) ?_
 ·have hl:=ht.2
  obtain⟨v,g,hv,hg,rfl⟩:=hσ
  refine v_clo G (aj.mono (f177 G x blk g _ v hv hg (by simp;omega)) ?_)
  rintro r σ' ⟨h1,g',h2,rfl⟩
  exact⟨h1,_,g',.inl rfl,h2,by simp⟩
 ·rintro r σ' ⟨rfl,v,g,hv,hg,rfl⟩
  rw[kd (by simp)]at hv ⊢
  simp only[nil_append,append_nil]at hv ⊢
  rcases hv with rfl|⟨rfl,rfl,h0⟩
  ·(repeat' (simp only[EVz,seval,↓reduceIte,EV6,EV7]))
   exact hR _ _ (Or.inl (Or.inr ⟨rfl,by simp[U.ids]⟩))
  ·exact absurd h0 (by rw[U.flat_eq];simp)
end
def mset {κ:Type} (l:List κ):List (κ×AV):=l.map λx=>(x,AV.bool true)
theorem cq {κ:Type} [DecidableEq κ] (k:κ):∀l:List κ,(aX k (mset l)).getD (.bool false)= .bool (decide (k∈l))
 |[]=>by simp[mset,aX]
 |x::l=>by
  simp only[mset,map_cons,aX]
  by_cases h:x=k
  ·subst h;simp
  ·rw[if_neg h]
   have:=cq k l
   unfold mset at this
   rw[this]
   have:k≠x:=λe=>h e.symm
   simp[this]
theorem gF {κ:Type} [DecidableEq κ] (k:κ):∀l:List κ,dD k (.bool true) (mset l)=mset (if k∈l then l else l++[k])
 |[]=>by simp[mset,dD]
 |x::l=>by
  simp only[mset,map_cons,dD]
  by_cases h:x=k
  ·subst h;simp
  ·rw[if_neg h]
   have:=gF k l
   unfold mset at this
   rw[this]
   have h2:k≠x:=λe=>h e.symm
   by_cases h3:k∈l<;>simp[h2,h3]
abbrev CKey:=Int×List UInt8
def jF (k:CKey):List Value:=[.int .i64 k.1,.string ⟨⟨k.2⟩⟩]
def ckVal (k:CKey):Value:=.agg (jF k).toArray
def jE (k:Idd):List Value:=[.int .i64 k.act,.int .i64 k.item,.int .i64 k.n]
def ma (k:Idd):Value:=.agg (jE k).toArray
def U.ck (u:U):CKey:=(u.kind,u.label)
theorem eqK_ck (a b:CKey):eqK [1,2] (jF a) (jF b)=some (decide (a=b)):=by
 obtain⟨a1,a2⟩:=a
 obtain⟨b1,b2⟩:=b
 simp only[jF,eqK,if_true,Option.map_some]
 congr 1
 rw[Bool.eq_iff_iff];simp
theorem eqK_id (a b:Idd):eqK [1,1,1] (jE a) (jE b)=some (decide (a=b)):=by
 rw[mW]
 simp only[jE,eqK,if_true,Option.map_some]
 congr 1
 rw[Bool.eq_iff_iff];simp
theorem mapK_ck:MapK Tryz.prog 249 ckVal:=
 md (fs:=Tryz.prog.fieldsOf 249) (ks:=[1,2]) (by kernel_rfl) (by kernel_rfl) jF (λ_=>rfl) eqK_ck (λk v hv n=>by
  simp only[jF,mem_cons,not_mem_nil,or_false]at hv
  rcases hv with rfl|rfl
  ·exact jj n _ _
  ·exact mI n _)
theorem j3:MapK Tryz.prog 23 ma:=
 md (fs:=Tryz.prog.fieldsOf 23) (ks:=[1,1,1]) (by kernel_rfl) (by kernel_rfl) jE (λ_=>rfl) eqK_id (λk v hv n=>by
  simp only[jE,mem_cons,not_mem_nil,or_false]at hv
  rcases hv with rfl|rfl|rfl<;>exact jj n _ _)
theorem rep_ck (k:Int) (s:List UInt8):∀τ w v,Rep τ w (.agg [.int .i64 k,.str s]) v->v=ckVal (k,s):=by
 intro τ w v h
 simp only[Rep,RepL]at h
 obtain⟨vs,rfl,_,u,us,h1,rfl,u2,us2,rfl,rfl,rfl⟩:=h
 have:vs=vs.toList.toArray:=by simp
 rw[this,h1];rfl
theorem mK (i:Idd):∀τ w v,Rep τ w (.agg [.int .i64 i.act,.int .i64 i.item,.int .i64 i.n]) v->v=ma i:=by
 intro τ w v h
 simp only[Rep,RepL]at h
 obtain⟨vs,rfl,_,u,us,h1,rfl,u2,us2,rfl,rfl,u3,us3,rfl,rfl,rfl⟩:=h
 have:vs=vs.toList.toArray:=by simp
 rw[this,h1];rfl
theorem dz (c:List Idd):(cJ ma (mset c)).length=c.length:=by simp[cJ,mset]
def Seen (l c:List Idd) (i:Nat):Prop:=(∀y,y∈c↔y∈l.take i)/\c.Nodup/\(c.length=i↔(l.take i).Nodup)/\c.length<=i
theorem seen_step {l c:List Idd} {i:Nat} {x:Idd} {r:List Idd} (hx:Rest l i x r) (h:Seen l c i):Seen l (if x∈c then c else c++[x]) (i+1):=by
 obtain⟨h1,h2,h3,h4⟩:=h
 unfold Seen
 rw[hx.take]
 by_cases hc:x∈c
 ·rw[if_pos hc]
  refine⟨λy=>?_,h2,⟨λe=>by omega,λe=>?_⟩,by omega⟩
  ·rw[mem_append,←h1]
   constructor
   ·exact .inl
   ·rintro(h|h)
    ·exact h
    ·simp only[mem_singleton]at h;subst h;exact hc
  ·exact absurd rfl ((nodup_append.1 e).2.2 x ((h1 x).1 hc) x (by simp))
 ·rw[if_neg hc]
  refine⟨λy=>by rw[mem_append,mem_append,←h1],nodup_append.2 ⟨h2,by simp,?_⟩,?_,by simp;omega⟩
  ·intro a ha b hb e
   simp only[mem_singleton]at hb
   subst hb e
   exact hc ha
  ·rw[length_append,length_singleton]
   constructor
   ·intro e
    refine nodup_append.2 ⟨h3.1 (by omega),by simp,?_⟩
    intro a ha b hb e
    simp only[mem_singleton]at hb
    subst hb e
    exact hc ((h1 a).2 ha)
   ·intro e
    have:=h3.2 (nodup_append.1 e).1
    omega
theorem seen_all {l c:List Idd} (h:Seen l c l.length):(zId∈c/\c.length=1↔(l≠[]/\(l.all λx=>decide (x=zId))=true))/\(c.length=l.length↔l.Nodup):=by
 obtain⟨h1,h2,h3,h4⟩:=h
 rw[take_length]at h1 h3
 refine⟨⟨λ⟨e1,e2⟩=>?_,λ⟨e1,e2⟩=>?_⟩,h3⟩
 ·obtain⟨a,rfl⟩:=length_eq_one_iff.1 e2
  simp only[mem_singleton]at e1
  subst e1
  refine⟨λe=>?_,all_eq_true.2 λy hy=>?_⟩
  ·have:=(h1 zId).1 (by simp);rw[e]at this;cases this
  ·have:=(h1 y).2 hy
   simpa using this
 ·have hall:∀y∈c,y=zId:=λy hy=>by simpa using(all_eq_true.1 e2) y ((h1 y).1 hy)
  obtain⟨y,hy⟩:=exists_mem_of_ne_nil _ e1
  have hyc:=(h1 y).2 hy
  have hz:=hall y hyc
  subst hz
  refine⟨hyc,?_⟩
  match c,hyc,h2,hall with
  |[a],_,_,_=>rfl
  |a::b::c,_,h2,hall=>
   have ea:=hall a (by simp)
   have eb:=hall b (by simp)
   simp[ea,eb]at h2
def own1 (u:U):Bool:=if u.kind=0 then decide (u.label=[])&&(decide ((u.head.length:Int)=0)&&decide ((u.words.length:Int)=0))else decide (0<=u.kind)&&decide (u.kind<=7)&&(bC u.label&&(aS u.head&&aS u.words))
def nodeOk (u:U):Bool:=own1 u&&((u.kids.all λk=>g6 u.kind k.kind)&&decide (bW u.kids)&&decide ((u.kids.length:Int)<=64))
theorem kt_nil (k:Int):((if 0<=k/\k<=7 then kindText k else [])=[])=¬(0<=k/\k<=7):=by
 apply propext
 split
 ·rename_i h
  refine⟨λe=>?_,λe=>absurd h e⟩
  rcases lt8 h.1 h.2 with rfl|rfl|rfl|rfl|rfl|rfl|rfl|rfl<;>cases e
 ·rename_i h;simp only[true_iff];exact h
theorem own_no0 {u:U} (h:u.kind=0) (h2:u.label≠[]\/(0:Int)<(u.head.length:Int)+(u.words.length:Int)):own1 u=false:=by
 unfold own1;rw[if_pos h]
 rcases h2 with h2|h2
 ·simp[h2]
 ·simp;intro _ e hw;simp[e,hw]at h2
theorem own_yes0 {u:U} (h:u.kind=0) (h2:¬u.label≠[]) (h3:(u.head.length:Int)+(u.words.length:Int)<=0):own1 u=true:=by
 unfold own1;rw[if_pos h]
 simp only[Bool.and_eq_true,decide_eq_true_eq]
 exact⟨by simpa using h2,by omega,by omega⟩
section
variable (G:Glob) (hG:GOk G)
include hG
theorem f259 (u:U) (ht:u.Tame) (hh:u.head.length<1000000) (hww:u.words.length<1000000):Pure G Tryz.prog 259 [.agg u.cs] (.bool (nodeOk u)):=by
 have hkl:=ht.kids
 have hkn:=f275 G hG
 refine Pure.w c259 λR hR=>?_
 unfold s259 r259
 have hwl:IntKind.i64.wrap ((u.head.length:Int)+(u.words.length:Int))=(u.head.length:Int)+(u.words.length:Int):=au (by omega) (by omega)
 (repeat' (first|(with_reducible (first|refine ae (λh=>?_) (λh=>?_)|refine ag (λh=>?_) (λh=>?_))<;>(try simp only[Da,Db,Dc,Dw,De,Df,Dg,Dh]at h))|(with_reducible first|refine ab (hkn _) ?_|refine ab (f143 G _) ?_|refine ab (f279 G _ hh) ?_|refine ab (f279 G _ hww) ?_)|simp only[EVz,seval,↓reduceIte,EV6,EV7,hwl]|fail))
 all_goals(try(refine ep ?_;intro b0 hb0))
 all_goals(try((repeat' (first|(with_reducible (first|refine ae (λh=>?_) (λh=>?_)|refine ag (λh=>?_) (λh=>?_))<;>(try simp only[Da,Db,Dc,Dw,De,Df,Dg,Dh]at h))|(with_reducible refine ab (f80 G hG _ _) ?_)|simp only[EVz,seval,↓reduceIte,EV6,EV7,hwl,cq,hx.yes,hx.le0,hx.lt',hx.get,hx.row,hw,hne]|simp only[EVz,seval,↓reduceIte,EV6,EV7,hwl,cq,hx.yes,hx.le0,hx.lt',hx.get,hx.row,hw]|simp only[EVz,seval,↓reduceIte,EV6,EV7,hwl,cq,hn]|simp only[EVz,seval,↓reduceIte,EV6,EV7,hwl,cq]|(with_reducible intro blk hblk;(try(have hnx:=hblk;simp only[EVK]at hnx;first|(have hne:=AI hnx hne)|(have hne:=hnx))))|(refine Zq u.kids (λi r (c:Unit)=>(u.kids.all λk=>g6 u.kind k.kind)=(r.all λk=>g6 u.kind k.kind)/\bW (u.kids.take i)) (λi c=>[(1,.ref u.cs),(3,.sc (.map (some b0))),(47,.lst 8 (u.kids.map U.cs)),(48,.int .i64 u.kids.length),(49,.int .i64 i)]) (λi c=>[(b0,.map (cJ ckVal (mset ((u.kids.take i).map U.ck))))]) () ⟨rfl,by simp[bW]⟩ (Weak.rfl' _ _) (by omega) (λi x r c hok hx hw=>?_) (λc hok hn=>?_))|(refine aI mapK_ck (l:=mset ((u.kids.take i).map U.ck)) (k:=x.ck) (z:=.bool false) (zv:=.bool false) rfl (rep_ck _ _) (eT:=4) (by kernel_rfl) (by simp[Store.get, *]) (by kernel_rfl) (λ_ _=>by simp only[Rep]) ?_)|(refine ed mapK_ck (l:=mset ((u.kids.take i).map U.ck)) (k:=x.ck) (yv:=.bool true) rfl (rep_ck _ _) rfl (eT:=4) (by kernel_rfl) (by simp[Store.get, *]) ?_)|fail))))
 all_goals first
  |(rename_i hnn
    refine af hx () ⟨by rw[hok.1,all_cons,hnn,Bool.true_and],?_⟩ ?_
    ·refine iB hx hok.2 λy hy e=>h (mem_map.2 ⟨y,hy,?_⟩)
     unfold U.ck
     rw[e.1,e.2]
    ·rw[gF,if_neg h,show List.map U.ck (List.take i u.kids)++[x.ck]=List.map U.ck (List.take (i+1) u.kids)by rw[hx.take];simp]
     exact Weak.sub ⟨λp hp=>mem_cons_of_mem _ (mem_cons_of_mem _ hp),λ_=>by simp[Store.keys]⟩)
  |(refine RET.eq hR (congrArg AV.bool ?_)
    obtain⟨y,hy,e⟩:=mem_map.1 h
    unfold U.ck at e
    injection e with e1 e2
    unfold nodeOk
    rw[decide_eq_false (kD hx hy e1 e2)]
    simp)
  |(refine RET.eq hR (congrArg AV.bool ?_);unfold nodeOk;rw[hok.1,all_cons,h];simp;done)
  |(refine RET.eq hR (congrArg AV.bool ?_);unfold nodeOk;rw[own_no0 (by assumption) (.inr h)];rfl)
  |(refine RET.eq hR (congrArg AV.bool ?_);unfold nodeOk;rw[own_no0 (by assumption) (.inl h)];rfl)
  |(rw[take_length]at hok
    refine RET.eq hR (congrArg AV.bool ?_);unfold nodeOk;rw[hok.1,decide_eq_true hok.2,own_yes0 (by assumption) (by assumption) h];rfl)
  |(rw[take_length]at hok
    simp only[kt_nil,Classical.not_not]at*
    refine RET.eq hR (congrArg AV.bool ?_);unfold nodeOk own1;rw[hok.1,decide_eq_true hok.2];simp[*];done)
  |(simp only[kt_nil,Classical.not_not]at*;refine RET.eq hR (congrArg AV.bool ?_);unfold nodeOk own1;simp[*];done)
  |(simp only[kt_nil,Classical.not_not]at*;refine RET.eq hR (congrArg AV.bool ?_);unfold nodeOk own1;simp[*];intros;omega)
  |skip
end
section
variable (G:Glob)
theorem f260 (u:U) (ht:u.Tame):Pure G Tryz.prog 260 [.agg u.cs] (.bool (il u)):=by
 have hI:=f110 G u ht
 have hl:u.ids.length<1000000:=by rw[U.ids_len];exact ht.2
 have h0:u.ids=u.id::U.idss u.kids:=U.ids_eq u
 refine Pure.w c260 λR hR=>?_
 unfold s260 r260
 unfold il at hR
 obtain⟨l,hll⟩:∃l,u.ids=l:=⟨_,rfl⟩
 rw[hll]at hR hI hl
 (repeat' (first|(with_reducible refine ab hI ?_)|simp only[EVz,seval,↓reduceIte,EV6,EV7]|fail))
 refine ep ?_
 intro b0 hb0
 (repeat' (first|(with_reducible (refine ag (λh=>?_) (λh=>?_))<;>(try simp only[Da,Db,Dc,Dw,De,Df,Dg,Dh]at h))|simp only[EVz,seval,↓reduceIte,EV6,EV7,cq,dz,cL,hx.yes,hx.le0,hx.lt',hx.get,hx.row,hw,hne]|simp only[EVz,seval,↓reduceIte,EV6,EV7,cq,dz,cL,hx.yes,hx.le0,hx.lt',hx.get,hx.row,hw]|simp only[EVz,seval,↓reduceIte,EV6,EV7,cq,dz,cL,hn]|simp only[EVz,seval,↓reduceIte,EV6,EV7,cq,dz,cL]|(with_reducible intro blk hblk;(try(have hnx:=hblk;simp only[EVK]at hnx;(have hne:=hnx))))|(refine Zq (ι:=List Idd) l (λi r c=>Seen l c i) (λi c=>[(1,.ref u.cs),(3,.lst 3 (l.map Idd.cs)),(4,.sc (.map (some b0))),(11,.lst 3 (l.map Idd.cs)),(12,.int .i64 l.length),(13,.int .i64 i)]) (λi c=>[(b0,.map (cJ ma (mset c)))]) [] (by simp[Seen]) (Weak.rfl' _ _) (by omega) (λi x r c hok hx hw=>?_) (λc hok hn=>?_))|(refine aI j3 (l:=mset c) (k:=zId) (z:=.bool false) (zv:=.bool false) rfl (mK zId) (eT:=4) (by kernel_rfl) (by simp[Store.get, *]) (by kernel_rfl) (λ_ _=>by simp only[Rep]) ?_)|(refine ed j3 (l:=mset c) (k:=x) (yv:=.bool true) rfl (mK x) rfl (eT:=4) (by kernel_rfl) (by simp[Store.get, *]) ?_)|(refine oT (es:=cJ ma (mset c)) (kT:=23) (eT:=4) rfl (by kernel_rfl) (by simp[Store.get]) ?_)|fail))
 ·rw[gF]
  exact af hx _ (seen_step hx hok) (Weak.sub ⟨λp hp=>mem_cons_of_mem _ hp,λ_=>by simp[Store.keys]⟩)
 all_goals
  have hlne:l≠[]:=by rw[←hll,h0];simp
  obtain⟨s1,s2⟩:=seen_all hok
  have hA:(l.all λx=>decide (x=zId))=(decide (zId∈c)&&decide ((c.length:Int)=1)):=by
   rw[Bool.eq_iff_iff,Bool.and_eq_true,decide_eq_true_eq,decide_eq_true_eq,show((c.length:Int)=1↔c.length=1)by omega,s1]
   exact⟨λh=>⟨hlne,h⟩,λh=>h.2⟩
  have hB:decide l.Nodup=decide ((c.length:Int)=(l.length:Int)):=by rw[decide_eq_decide,←s2];omega
  have hC:(decide (u.kind=0)==decide (u.id=zId))=decide (decide (u.id=zId)=decide (u.kind=0)):=by
   by_cases e1:u.kind=0<;>by_cases e2:u.id=zId<;>simp[e1,e2]
  refine RET.eq hR (congrArg AV.bool ?_)
  (try rw[hC])
  rw[hA,hB]
  first|rw[decide_eq_true (p:=zId∈c) (by assumption)]|rw[decide_eq_false (p:=zId∈c) (by assumption)]
  (try(first|rw[decide_eq_true (p:=(c.length:Int)=1) (by assumption)]|rw[decide_eq_false (p:=(c.length:Int)=1) (by assumption)]))
  (try(first|rw[decide_eq_true (p:=(c.length:Int)=(l.length:Int)) (by assumption)]|rw[decide_eq_false (p:=(c.length:Int)=(l.length:Int)) (by assumption)]))
  simp
def cG (u:U):Bool:=u.flat.all nodeOk&&(decide (u.dep<=8)&&(decide (u.cnt<=1024)&&il u))
def dX (w:Wd):Bool:=!decide (w.act=0/\w.item=0/\w.at_=0)
def dS (u:U):Bool:=decide (u.id=zId)&&(!u.head.any dX&& !u.words.any dX)
def gS (u:U):Bool:=cG u&&u.flat.all dS
end
section
variable (G:Glob) (hG:GOk G)
theorem js {us:List U} {x:U} (h:x∈U.flats us):∃k∈us,x∈k.flat:=by
 induction us with
 |nil=>rw[bt]at h;cases h
 |cons a us ih=>
  rw[aD]at h
  rcases mem_append.1 h with h|h
  ·exact⟨a,by simp,h⟩
  ·obtain⟨k,hk,hx⟩:=ih h;exact⟨k,by simp[hk],hx⟩
theorem U.Tame.node:∀{u:U},u.Tame->∀x∈u.flat,x.Tame:=by
 intro u
 induction u using U.ind with
 |h u ih=>
  intro ht x hx
  rw[U.flat_eq]at hx
  rcases mem_cons.1 hx with rfl|hx
  ·exact ht
  ·obtain⟨k,hk,hx⟩:=js hx
   exact ih k hk (ht.kid hk) x hx
include hG in
theorem f226 (u:U) (hs:u.Short):Pure G Tryz.prog 226 [.agg u.cs] (.bool (cG u)):=by
 have ht:=hs.1
 have hE:Pure G Tryz.prog 175 [.agg u.cs,.sc (.func (.func 259) #[] #[])] (.bool (u.flat.all nodeOk)):=
  lJ G _ nodeOk u ht λx hx=>(f259 G hG x (ht.node x hx) (hs.2 x hx).2.1 (hs.2 x hx).2.2.1).v
 refine Pure.w c226 λR hR=>?_
 unfold s226 r226
 unfold cG at hR
 generalize u.flat.all nodeOk=q at*
 (repeat' (first|(with_reducible (refine ag (λh=>?_) (λh=>?_))<;>(try simp only[Da,Db,Dc,Dw,De,Df,Dg,Dh]at h))|(with_reducible first|refine ab hE ?_|refine ab (f174 G u ht) ?_|refine ab (f109 G u ht) ?_|refine ab (f260 G u ht) ?_)|simp only[EVz,seval,↓reduceIte,EV6,EV7]|fail))
 (all_goals(first|(refine RET.eq hR ?_;(refine congrArg AV.bool (Bool.eq_iff_iff.2 ?_);simp only[EVB]at*;omega))|(refine RET.eq hR ?_;((simp_all[];done)))))
theorem f228 (w:Wd):Pure G Tryz.prog 228 [.agg w.cs] (.bool (dX w)):=by
 refine Pure.w c228 λR hR=>?_
 unfold s228 r228
 (repeat' (simp only[EVz,seval,↓reduceIte,EV6,EV7]))
 (all_goals(((refine RET.eq hR ?_;((simp_all[dX];done))))))
theorem f227 (u:U) (hh:u.head.length<1000000) (hww:u.words.length<1000000):Pure G Tryz.prog 227 [.agg u.cs] (.bool (dS u)):=by
 have hv:=λw=>(f228 G w).v
 have h1:=f229 G _ dX u.head (by omega) (λx _=>hv x)
 have h2:=f229 G _ dX u.words (by omega) (λx _=>hv x)
 refine Pure.w c227 λR hR=>?_
 unfold s227 r227
 unfold dS at hR
 generalize u.head.any dX=q1 at*
 generalize u.words.any dX=q2 at*
 (repeat' (first|(with_reducible (refine ag (λh=>?_) (λh=>?_))<;>(try simp only[Da,Db,Dc,Dw,De,Df,Dg,Dh]at h))|(with_reducible first|refine ab h1 ?_|refine ab h2 ?_)|simp only[EVz,seval,↓reduceIte,EV6,EV7,cL]|fail))
 (all_goals(((refine RET.eq hR ?_;((simp_all[];done))))))
include hG in
theorem f191 (u:U) (hs:u.Short):Pure G Tryz.prog 191 [.agg u.cs] (.bool (gS u)):=by
 have ht:=hs.1
 have hE:Pure G Tryz.prog 175 [.agg u.cs,.sc (.func (.func 227) #[] #[])] (.bool (u.flat.all dS)):=
  lJ G _ dS u ht λx hx=>(f227 G x (hs.2 x hx).2.1 (hs.2 x hx).2.2.1).v
 refine Pure.w c191 λR hR=>?_
 unfold s191 r191
 unfold gS at hR
 generalize u.flat.all dS=q at*
 (repeat' (first|(with_reducible (refine ag (λh=>?_) (λh=>?_))<;>(try simp only[Da,Db,Dc,Dw,De,Df,Dg,Dh]at h))|(with_reducible first|refine ab hE ?_|refine ab (f226 G hG u hs) ?_)|simp only[EVz,seval,↓reduceIte,EV6,EV7]|fail))
 (all_goals(((refine RET.eq hR ?_;((simp_all[];done))))))
end
def fo:List UInt8:=[97,98,99,100,101,102,103,104,105,106,107,108,109,110,111,112,113,114,115,116,117,118,119,120,121,122,48,49,50,51,52,53,54,55,56,57,45]
theorem pr (c:UInt8):fo.contains c=eB c:=by
 have key:∀n:Fin 256,fo.contains (UInt8.ofNat n.val)=eB (UInt8.ofNat n.val):=by decide+kernel
 have:=key ⟨c.toNat,c.toNat_lt⟩
 simpa using this
theorem fv {α:Type} (p:α->Bool):∀l:List α,l.dropWhile p=[]↔l.all p=true
 |[]=>by simp
 |x::l=>by
  rw[dropWhile_cons,all_cons]
  split
  ·rename_i h;rw[fv p l,h,Bool.true_and]
  ·rename_i h;simp[h]
theorem trimS_nil (l cs:List UInt8):Lib.trimS l cs=[]↔(l.all λc=>cs.contains c)=true:=by
 unfold Lib.trimS Lib.trimLeftS Lib.trimRightS
 rw[fv,all_reverse]
 constructor
 ·intro h
  have h2:l.reverse.all (λc=>cs.contains c)=true:=by
   rw[←takeWhile_append_dropWhile (p:=λc=>cs.contains c) (l:=l.reverse),all_append,h,Bool.and_true]
   exact all_takeWhile
  rwa [all_reverse]at h2
 ·intro h
  have h2:l.reverse.dropWhile (λc=>cs.contains c)=[]:=(fv _ _).2 (by rw[all_reverse];exact h)
  rw[h2];rfl
section
variable (G:Glob)
theorem f153 (s:List UInt8) (hs:s.length<1000000000000000000):Pure G Tryz.prog 153 [.str s,.str fo] (.str (Lib.trimS s fo)):=by
 refine Pure.of_calls Tryz.func153 (by kernel_rfl) (by kernel_rfl) λτ w vs hS hA=>?_
 obtain⟨u,v,rfl,h1,h2⟩:=jD hA
 simp only[Rep]at h1 h2
 subst h1 h2
 refine⟨.string ⟨⟨Lib.trimS s fo⟩⟩,λ_ _=>by simp only[Rep],?_⟩
 have hsz:(⟨⟨s⟩⟩:ByteArray).size=s.length:=rfl
 refine(Any.strings_Trim_laid Tryz.lays160 (by kernel_rfl) ⟨⟨s⟩⟩ ⟨⟨fo⟩⟩ w (by rw[hsz];omega) (by decide) (ascii_of_all (by decide))).mono ?_
 rintro e w' ⟨rfl,hB⟩
 exact⟨rfl,hB⟩
theorem f70 (s:List UInt8) (hs:s.length<1000000000000000000):Pure G Tryz.prog 70 [.str s] (.bool (d9 s)):=by
 have hT:=f153 G s hs
 have hb:decide (Lib.trimS s fo=[])=s.all eB:=by
  rw[Bool.eq_iff_iff,decide_eq_true_eq,trimS_nil]
  simp only[pr]
 unfold fo at hT hb
 refine Pure.w c70 λR hR=>?_
 unfold s70 r70
 unfold d9 at hR
 generalize s.all eB=q at*
 (repeat' (first|(with_reducible (first|refine ae (λh=>?_) (λh=>?_)|refine ag (λh=>?_) (λh=>?_))<;>(try simp only[Da,Db,Dc,Dw,De,Df,Dg,Dh]at h))|(with_reducible refine AI (by omega) ?_)|(with_reducible refine ab hT ?_)|simp only[EVz,seval,↓reduceIte,EV6,EV7,hb]|fail))
 (all_goals(first|(refine RET.eq hR ?_;(refine congrArg AV.bool (Bool.eq_iff_iff.2 ?_);simp only[je,EVB]at*;omega))|(refine RET.eq hR ?_;((simp_all[je];done)))))
theorem f71 (s:Sta) (hs:s.event.length<1000000000000000000):Pure G Tryz.prog 71 [.agg [.int .i64 s.kind,.int .i64 s.day,.str s.event]] (.bool (jv s)):=by
 refine Pure.w c71 λR hR=>?_
 unfold s71 r71
 (repeat' (first|(with_reducible (first|refine ae (λh=>?_) (λh=>?_)|refine ag (λh=>?_) (λh=>?_))<;>(try simp only[Da,Db,Dc,Dw,De,Df,Dg,Dh]at h))|(with_reducible first|refine ab (f70 G _ hs) ?_|refine ab (f148 G _ _ _) ?_)|simp only[EVz,seval,↓reduceIte,EV6,EV7]|(exfalso;omega)|fail))
 (all_goals(((refine RET.eq hR ?_;((simp_all[jv];done))))))
end
end Go.Av
