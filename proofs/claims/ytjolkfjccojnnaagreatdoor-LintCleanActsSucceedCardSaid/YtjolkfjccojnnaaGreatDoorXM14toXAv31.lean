/-
  ENACT, M14: editable books, as the document says it.
-/
import Derived.Test.YtjolkfjccojnnaaGreatDoorXE14toXM13
import Derived.Test.YtjolkfjccojnnaaGreatDoorXE3toXL25
import Derived.Test.YtjolkfjccojnnaaGreatDoorXE8toXE10
import Derived.Test.YtjolkfjccojnnaaGreatDoorXL38toXM9
import Derived.Test.YtjolkfjccojnnaaGreatDoorXL21toXOpI
import Derived.Test.YtjolkfjccojnnaaGreatDoorXL28toXL51
import Derived.Test.YtjolkfjccojnnaaGreatDoorXAv21toXAv25
namespace Go.Av
open Go Go.RowKit Go.Proofs List
set_option linter.unusedSimpArgs false
set_option linter.unusedVariables false
section
mutual
def U.named:U->Bool
 |⟨d,k,l,h,w,ks⟩=>(decide (k=0)|| !decide (d=zId))&&U.nameds ks
def U.nameds:List U->Bool
 |[]=>true
 |u::us=>U.named u&&U.nameds us
end
theorem U.named_eq (u:U):u.named=((decide (u.kind=0)|| !decide (u.id=zId))&&U.nameds u.kids):=by cases u;rw[U.named]
theorem U.nameds_nil:U.nameds []=true:=by rw[U.nameds]
theorem U.nameds_cons (u:U) (us:List U):U.nameds (u::us)=(u.named&&U.nameds us):=by rw[U.nameds]
theorem rg:∀u:U,u.named=true->∀y∈u.flat,y.kind=0\/y.id≠zId:=by
 refine U.ind λu ih h y hy=>?_
 rw[U.named_eq,Bool.and_eq_true]at h
 rw[U.flat_eq]at hy
 rcases mem_cons.1 hy with rfl|hy
 ·have:=h.1
  simp only[Bool.or_eq_true,decide_eq_true_eq,Bool.not_eq_true',decide_eq_false_iff_not]at this
  exact this
 ·obtain⟨k,hk,hy⟩:=ce hy
  have:∀us:List U,U.nameds us=true->∀k∈us,k.named=true:=by
   intro us
   induction us with
   |nil=>intro _ k hk;cases hk
   |cons x us ihu=>
    intro h k hk
    rw[U.nameds_cons,Bool.and_eq_true]at h
    rcases mem_cons.1 hk with rfl|hk
    ·exact h.1
    ·exact ihu h.2 k hk
  exact ih k hk (this u.kids h.2 k hk) y hy
def qD (u:U):Bool:=decide (u.kind=0)&&(jN u&&u.named)
theorem qZ {u:U} (h:qD u=true):Good u:=by
 unfold qD at h
 rw[pm]at h
 unfold cG at h
 simp only[Bool.and_eq_true,decide_eq_true_eq]at h
 obtain⟨h0,⟨hn,hd,hc,hi⟩,hnm⟩:=h
 have hnode:=all_eq_true.1 hn
 have hnmf:=rg u hnm
 have hids:u.ids.Nodup/\u.id=zId:=by
  unfold il at hi
  rcases Bool.or_eq_true_iff.1 hi with hz|hz
  ·have hall:=all_eq_true.1 hz
   have hk:u.kids=[]:=by
    cases hks:u.kids with
    |nil=>rfl
    |cons k ks=>
     exfalso
     have hkm:k∈u.kids:=by rw[hks];simp
     have hkf:k∈u.flat:=U.flat_kid hkm k.flat_self
     have h1:=qS (gh (hnode u u.flat_self) k hkm)
     have h2:k.id=zId:=by simpa using hall k.id (mem_map.2 ⟨k,hkf,rfl⟩)
     rcases hnmf k hkf with h3|h3
     ·exact h1 h3
     ·exact h3 h2
   have e:u.ids=[u.id]:=by rw[U.ids_eq,hk,U.idss_nil]
   refine⟨by rw[e];simp,?_⟩
   simpa using hall u.id (mR u)
  ·rw[Bool.and_eq_true,decide_eq_true_eq,decide_eq_true_eq]at hz
   refine⟨hz.2,?_⟩
   have:=hz.1
   rw[decide_eq_true h0]at this
   simpa using this
 refine⟨hids.1,hnode,by unfold U.dep at hd;omega,by unfold U.cnt at hc;omega,⟨λ_=>hids.2,λ_=>h0⟩,λh=>absurd h0 h⟩
section
variable (G:Glob)
theorem f46:∀(u:U),u.Tame->Pure G Tryz.prog 46 [.agg u.cs] (.bool u.named):=by
 refine U.ind λu ih ht=>?_
 have hkl:=ht.kids
 refine Pure.w c46 λR hR=>?_
 unfold s46 r46
 rw[U.named_eq]at hR
 (repeat' (first|(with_reducible (first|refine ae (λh=>?_) (λh=>?_)|refine ag (λh=>?_) (λh=>?_))<;>(try simp only[Da,Db,Dc,Dw,De,Df,Dg,Dh]at h))|(with_reducible refine ab (ih x hx.mem (ht.kid hx.mem)) ?_)|simp only[EVz,seval,↓reduceIte,EV6,EV7,cL,hx.yes,hx.le0,hx.lt',hx.get,hx.row,hw]|simp only[EVz,seval,↓reduceIte,EV6,EV7,cL,hn]|simp only[EVz,seval,↓reduceIte,EV6,EV7,cL]|(refine af hx () ?_ (Weak.rfl' _ _))|(refine Zq (u.kids) (λi r (c:Unit)=>U.nameds u.kids=U.nameds r) (λi c=>[(1,.ref u.cs),(3,.int .i64 i)]) (λ_ _=>[]) () (by rfl) (Weak.rfl' _ _) (by omega) (λi x r c hok hx hw=>?_) (λc hok hn=>?_))|fail))
 (all_goals(first|(refine RET.eq hR ?_;first|(simp only[U.nameds_nil,U.nameds_cons,hok,h,EVC,decide_true,decide_false];done)|(simp_all[U.nameds_nil,U.nameds_cons];done))|(rw[hok];simp only[U.nameds_nil,U.nameds_cons,h,EVC,decide_true,decide_false];done)))
theorem f21 (u:U) (hs:u.Short):Pure G Tryz.prog 21 [.agg u.cs] (.bool (jN u&&u.named)):=by
 have h1:=f45 G u hs
 have h2:=f46 G u hs.1
 refine Pure.w c21 λR hR=>?_
 unfold s21 r21
 generalize jN u=q1 at*
 generalize u.named=q2 at*
 (repeat' (first|(with_reducible (refine ag (λh=>?_) (λh=>?_))<;>(try simp only[Da,Db,Dc,Dw,De,Df,Dg,Dh]at h))|(with_reducible first|refine ab h1 ?_|refine ab h2 ?_)|simp only[EVz,seval,↓reduceIte,EV6,EV7]|fail))
 (all_goals(((refine RET.eq hR ?_;((simp_all[];done))))))
theorem f6 (u:U) (hs:u.Short):Pure G Tryz.prog 6 [.agg u.cs] (.bool (qD u)):=by
 have h1:=f21 G u hs
 refine Pure.w c6 λR hR=>?_
 unfold s6 r6
 unfold qD at hR
 generalize (jN u&&u.named)=q1 at*
 (repeat' (first|(with_reducible (refine ag (λh=>?_) (λh=>?_))<;>(try simp only[Da,Db,Dc,Dw,De,Df,Dg,Dh]at h))|(with_reducible refine ab h1 ?_)|simp only[EVz,seval,↓reduceIte,EV6,EV7]|fail))
 (all_goals(first|(refine RET.eq hR ?_;(refine congrArg AV.bool (Bool.eq_iff_iff.2 ?_);simp only[EVB]at*;omega))|(refine RET.eq hR ?_;((simp_all[];done)))))
end
end
theorem qP {l:List Wd} (h:o5 l=true):l.length<1000000/\∀w∈l,w.text.length<1000000:=by
 unfold o5 at h
 simp only[Bool.and_eq_true,all_eq_true,decide_eq_true_eq]at h
 exact⟨by omega,λw hw=>by have:=h.1 w hw;omega⟩
theorem qG:∀{us:List U},U.shortss us=true->∀k∈us,k.shorts=true
 |[],_,k,hk=>by cases hk
 |u::us,h,k,hk=>by
  rw[U.shortss,Bool.and_eq_true]at h
  rcases mem_cons.1 hk with rfl|hk
  ·exact h.1
  ·exact qG h.2 k hk
theorem q9:∀u:U,u.shorts=true->∀x∈u.flat,x.label.length<1000000/\x.head.length<1000000/\x.words.length<1000000/\(∀w∈x.head,w.text.length<1000000)/\(∀w∈x.words,w.text.length<1000000):=by
 refine U.ind λu ih h x hx=>?_
 rw[U.shorts_eq]at h
 simp only[Bool.and_eq_true,decide_eq_true_eq]at h
 obtain⟨h1,h2,h3,h4⟩:=h
 rw[U.flat_eq]at hx
 rcases mem_cons.1 hx with rfl|hx
 ·have a:=qP h2
  have b:=qP h3
  exact⟨by omega,a.1,b.1,a.2,b.2⟩
 ·obtain⟨k,hk,hx⟩:=js hx
  exact ih k hk (qG h4 k hk) x hx
theorem qM {u:U} (hf:u.fit) {m:Int} (hm:0<=m) (hm2:m<=100000) (h:u.few m=true):u.Short:=by
 unfold U.few at h
 simp only[Bool.and_eq_true,decide_eq_true_eq]at h
 obtain⟨h1,h2⟩:=h
 have h3:=(U.size_ok u 0 m hm).2.2 h1
 exact⟨⟨hf,by omega⟩,λx hx=>by
  obtain⟨a1,a2,a3,a4,a5⟩:=q9 u h2 x hx
  exact⟨by omega,a2,a3,λw hw=>by have:=a4 w hw;omega,λw hw=>by have:=a5 w hw;omega⟩⟩
theorem qW {l:List Stp} (h:lr l=true):∀s∈l,s.label.length<=100:=by
 unfold lr at h
 simp only[all_eq_true,decide_eq_true_eq]at h
 intro s hs
 have:=h s hs
 omega
theorem qY:∀{l:List Itm},Itm.fews l=true->∀y∈l,y.few=true
 |[],_,y,hy=>by cases hy
 |x::l,h,y,hy=>by
  rw[Itm.fews_cons,Bool.and_eq_true,Bool.and_eq_true]at h
  rcases mem_cons.1 hy with rfl|hy
  ·exact h.1.2
  ·exact qY h.2 y hy
theorem rh:∀x:Itm,x.fit->x.few=true->x.Shorts:=by
 refine Itm.ind λx ih hf h=>?_
 rw[Itm.few_eq]at h
 unfold Itm.few0 at h
 simp only[Bool.and_eq_true,decide_eq_true_eq]at h
 obtain⟨⟨a1,a2,a3,a4,a5,a6,a7,a8,a9,a10⟩,b1,b2,b3,b4,b5⟩:=h
 obtain⟨h1,h2,h3,h4,h5,h6,h7⟩:=(Itm.fit_eq x).1 hf
 refine(Itm.Shorts_eq x).2 ⟨⟨hf,qM h3 (by omega) (by omega) a10,by omega,by omega,λs hs=>by have:=qW b3 s hs;omega,λs hs=>by have:=qW b4 s hs;omega,by omega,by omega,by omega,by omega,by omega,by omega⟩,λy hy=>ih y hy (h7 y hy) (qY b5 y hy)⟩
def zU0:U:=⟨⟨0,0,0⟩,0,[],[],[],[]⟩
theorem qq:zU0.Short:=by
 have e:zU0.flat=[zU0]:=by rw[U.flat_eq];show _::U.flats []=_;rw[bt]
 have hf:zU0.fit:=(U.fit_eq _).2 ⟨by decide,⟨by decide,by simp[zU0]⟩,⟨by decide,by simp[zU0]⟩,by decide,by simp[zU0]⟩
 refine⟨⟨hf,by rw[e];simp⟩,λx hx=>?_⟩
 rw[e,mem_singleton]at hx
 subst hx
 refine⟨by decide,by decide,by decide,by simp[zU0],by simp[zU0]⟩
def exA:Itm:={iz with kind:=5,at_:=[⟨2,[53]⟩],label:=[53]}
def exB:Itm:={iz with kind:=2,at_:=[⟨2,[53]⟩],old:=[[97]],new:=[[97]]}
theorem exA_short:exA.Shorts:=by
 refine(Itm.Shorts_eq _).2 ⟨⟨(Itm.fit_eq _).2 ⟨by decide,by decide,qq.1.1,by decide,by decide,by decide,by simp[exA,iz]⟩,qq,by decide,by decide,by simp[exA,iz],by simp[exA,iz],by decide,by decide,by decide,by decide,by decide,by decide⟩,by simp[exA,iz]⟩
theorem exB_short:exB.Shorts:=by
 refine(Itm.Shorts_eq _).2 ⟨⟨(Itm.fit_eq _).2 ⟨by decide,by decide,qq.1.1,by decide,by decide,by decide,by simp[exB,iz]⟩,qq,by decide,by decide,by simp[exB,iz],by simp[exB,iz],by decide,by decide,by decide,by decide,by decide,by decide⟩,by simp[exB,iz]⟩
theorem exA_finds:exA.finds=[fw 10 ni]:=by decide+kernel
theorem exB_finds:exB.finds=[fw 11 n0]:=by decide+kernel
theorem Pure.le {G:Glob} {P:Program} {k:FuncId} {args args':List AV} {r:AV} (h:Pure G P k args' r) (ha:aB args args'):Pure G P k args r:=⟨h.1,λρ w vs hS hA=>h.2 ρ w vs hS (ha.rep hA)⟩
def qB (k:Int) (a o w:AV) (l:List UInt8):List AV:=[.int .i64 k,a,.nil,.int .i64 0,.int .i64 0,.int .i64 0,.int .i64 0,.int .i64 0,.int .i64 0,.str [],.nil,.nil,.nil,o,w,.str l,.str [],.int .i64 0,.int .i64 0,.str [],.int .i64 0,.int .i64 0,.int .i64 0,.str [],.nil]
section
variable (G:Glob) (hG:GOk G)
include hG
set_option maxRecDepth 100000 in
theorem f11:Pure G Tryz.prog 11 [] (.bool true):=by
 have hA:=f13 G hG exA exA_short
 have hB:=f13 G hG exB exB_short
 have hC:=re G
 rw[exA_finds]at hA
 rw[exB_finds]at hB
 simp only[map_cons,map_nil,fw_cs]at hA hB
 unfold qK at hC
 have hA':∀b,Pure G Tryz.prog 13 [.agg (qB 5 (.own (some b) 62 2 [[.int .i64 2,.str [53]]]) .nil .nil [53])] _:=λb=>Pure.le hA ⟨.inr (by rw[Itm.cs_eq];simp[bz,aP,exA,iz,Stp.cs,qB]),trivial⟩
 have hB':∀b c d,Pure G Tryz.prog 13 [.agg (qB 2 (.own (some b) 62 2 [[.int .i64 2,.str [53]]]) (.own (some c) 9 1 [[.str [97]]]) (.own (some d) 9 1 [[.str [97]]]) [])] _:=λb c d=>Pure.le hB ⟨.inr (by rw[Itm.cs_eq];simp[bz,aP,exB,iz,Stp.cs,srow,qB]),trivial⟩
 unfold qB at hA' hB'
 clear hA hB
 refine Pure.w c11 λR hR=>?_
 unfold s11 r11
 (repeat' (first|(with_reducible (first|refine ae (λh=>?_) (λh=>?_)|refine ag (λh=>?_) (λh=>?_)|refine aa (λh=>?_) (λh=>?_))<;>(try simp only[Da,Db,Dc,Dw,De,Df,Dg,Dh]at h))|(with_reducible refine AI (by omega) ?_)|(with_reducible first|refine ab (hA' _) ?_|refine ab (hB' _ _ _) ?_|refine ab hC ?_)|simp only[EVz,seval,↓reduceIte,EV6,EV7,ni,n0]|(with_reducible intro blk hblk;(try(have hnx:=hblk;simp only[EVK]at hnx;first|(have hne:=AI hnx hne)|(have hne:=hnx))))|(with_reducible refine ak ?_ ?_)|(with_reducible refine am ?_)|(refine⟨[[.int .i64 2,.str [53]]],rfl,(by simp),rfl,?_⟩)|(refine⟨[[.str [97]]],rfl,(by simp),rfl,?_⟩)|(exfalso;omega)))
 all_goals(exact RET.eq hR rfl)
end
def qC (d e:Dd):Prop:=e.act=d.act/\e.item=d.item
def qw (d:Dd) (x:Idd):Prop:=d.act<1\/d.item<0\/(x.act=d.act/\x.item=d.item)
instance (d e:Dd):Decidable (qC d e):=inferInstanceAs (Decidable (_/\_))
instance (d:Dd) (x:Idd):Decidable (qw d x):=inferInstanceAs (Decidable (_\/_))
def o6 (ids:List Idd):List Dd->List Dd->Bool
 |_,[]=>true
 |p,d::r=>if (∃e∈p,qC d e)\/(∃x∈ids,qw d x)then false else o6 ids (p++[d]) r
theorem qy (d:Dd):d.cs.length=28:=by unfold Dd.cs;simp[Itm.cs_len]
theorem qo (d:Dd):(d.cs.drop 1).length=27:=by rw[length_drop,qy]
theorem qF (d:Dd):d.cs.headD .any= .int .i64 d.act:=rfl
theorem qn (d:Dd):(d.cs.drop 1).headD .any= .int .i64 d.item:=rfl
theorem qI {l:List Dd} {i k:Nat} {x y:Dd} (hy:RestT l i k y) (h:∀e∈l.take k,¬qC x e) (hn:¬qC x y):∀e∈l.take (k+1),¬qC x e:=by
 intro e he
 rw[hy.take,mem_append,mem_singleton]at he
 rcases he with he|rfl
 ·exact h e he
 ·exact hn
section
variable (G:Glob)
theorem f10 (u:U) (ht:u.Tame) (l:List Dd) (hl:l.length<1000000):Pure G Tryz.prog 10 [.agg u.cs,.lst 28 (l.map Dd.cs)] (.bool (o6 u.ids [] l)):=by
 have hA:=f32 G u ht
 have hil:u.ids.length<1000000000000000000:=by unfold U.ids;rw[length_map];have:=ht.2;omega
 refine Pure.w c10 λR hR=>?_
 unfold s10 r10
 (repeat' (first|(with_reducible (first|refine ae (λh=>?_) (λh=>?_)|refine ag (λh=>?_) (λh=>?_))<;>(try simp only[Da,Db,Dc,Dw,De,Df,Dg,Dh]at h))|(with_reducible refine ab hA ?_)|simp only[EVz,seval,↓reduceIte,EV6,EV7,qy,qo,qF,qn,hy.yes,hy.le0,hy.lt',hy.row,hwk,hx.le0,hx.lt',hx.row]|simp only[EVz,seval,↓reduceIte,EV6,EV7,qy,qo,qF,qn,hnk,hx.le0,hx.lt',hx.row,hw]|simp only[EVz,seval,↓reduceIte,EV6,EV7,qy,qo,qF,qn,hx.yes,hx.le0,hx.lt',hx.get,hx.row,hw]|simp only[EVz,seval,↓reduceIte,EV6,EV7,qy,qo,qF,qn,hn]|simp only[EVz,seval,↓reduceIte,EV6,EV7,qy,qo,qF,qn]|(with_reducible intro blk hblk;(try(have hnx:=hblk;simp only[EVK]at hnx;(have hne:=hnx))))|(refine Zq (l) (λi r (c:Unit)=>o6 u.ids [] l=o6 u.ids (l.take i) r) (λi c=>[(1,.lst 28 (l.map Dd.cs)),(5,.lst 3 (u.ids.map Idd.cs)),(6,.int .i64 i)]) (λ_ _=>[]) () (by rfl) (Weak.rfl' _ _) (by omega) (λi x r c hok hx hw=>?_) (λc hok hn=>?_))|(refine qT (l) (i) (Nat.le_of_lt hx.lt) (λk (c:Unit)=>∀e∈l.take k,¬qC x e) (λk c=>[(1,.lst 28 (l.map Dd.cs)),(5,.lst 3 (u.ids.map Idd.cs)),(6,.int .i64 i),(7,.int .i64 k)]) (λ_ _=>[]) () (by simp) (Weak.rfl' _ _) (by have:=hx.lt;omega) (λk y c hok2 hy hwk=>?_) (λc hok2 hnk=>?_))|(refine mQ hy () ?_ (Weak.rfl' _ _))|fail))
 ·refine RET.eq hR (congrArg AV.bool ?_)
  rw[hok,o6,if_pos (.inl ⟨y,hy.mem,‹_›,h⟩)]
 ·exact qI hy hok2 (λhc=>h hc.2) blk hblk
 ·exact qI hy hok2 (λhc=>h hc.1) blk hblk
 ·have bad:∀{z:Idd},qw x z->z∈u.ids->RET (.bool false) [] R:=λ{z} hc hm=>RET.eq hR (congrArg AV.bool (by rw[hok,o6,if_pos (.inr ⟨z,hm,hc⟩)]))
  have more:∀{j:Nat} {z:Idd} {r2:List Idd},Rest u.ids j z r2->(∀y∈u.ids.take j,¬qw x y)->¬qw x z->∀y∈u.ids.take (j+1),¬qw x y:=λ{j z r2} hz h hn y hy=>by
   rw[hz.take,mem_append,mem_singleton]at hy
   rcases hy with hy|rfl
   ·exact h y hy
   ·exact hn
  refine Zq u.ids (λj r2 (c:Unit)=>∀z∈u.ids.take j,¬qw x z) (λj c=>[(1,.lst 28 (l.map Dd.cs)),(5,.lst 3 (u.ids.map Idd.cs)),(6,.int .i64 i),(8,.int .i64 j)]) (λ_ _=>[]) () (by simp) (Weak.rfl' _ _) (by omega) (λj z r2 c hok3 hz hwz=>?_) (λc hok3 hnz=>?_)
  ·(repeat' (first|(with_reducible (first|refine ae (λh=>?_) (λh=>?_)|refine ag (λh=>?_) (λh=>?_))<;>(try simp only[Da,Db,Dc,Dw,De,Df,Dg,Dh]at h))|simp only[EVz,seval,↓reduceIte,EV6,EV7,hz.yes,hz.le0,hz.lt',hz.get,hz.row,hwz,hx.le0,hx.lt',hx.row,hw,qy,qo,qF,qn,Idd.cs]|fail))
   ·exact bad (.inr (.inr ⟨‹_›,h⟩)) hz.mem
   ·exact af hz () (more hz hok3 λhc=>by rcases hc with hc|hc|⟨_,hc⟩<;>omega) (Weak.rfl' _ _)
   ·exact af hz () (more hz hok3 λhc=>by rcases hc with hc|hc|⟨hc,_⟩<;>omega) (Weak.rfl' _ _)
   ·exact bad (.inr (.inl (by omega))) hz.mem
   ·exact bad (.inl (by omega)) hz.mem
  ·rw[take_length]at hok3
   (repeat' (simp only[EVz,seval,↓reduceIte,EV6,EV7,hnz,hx.le0,hx.lt',hx.row,hw]))
   refine af hx () ?_ (Weak.rfl' _ _)
   rw[hok,o6,if_neg (by rintro(⟨e,he,hc⟩|⟨z,hz,hc⟩);exact hok2 e he hc;exact hok3 z hz hc),hx.take]
 ·exact RET.eq hR (by rw[hok,o6])
end
end Go.Av
namespace Go.Av
open Go Go.RowKit List
set_option linter.unusedSimpArgs false
set_option linter.unusedVariables false
theorem lx {α:Type} (l:List α):∀(c k:Nat),k<c*l.length->(List.replicate c l).flatten[k]? =l[k % l.length]?
 |0,k,h=>by simp at h
 |c+1,k,h=>by
  rw[replicate_succ,flatten_cons]
  by_cases hk:k<l.length
  ·rw[getElem?_append_left hk,Nat.mod_eq_of_lt hk]
  ·rw[getElem?_append_right (by omega),lx l c (k-l.length) (by rw[Nat.add_mul]at h;omega),←Nat.mod_eq_sub_mod (by omega)]
theorem cn {α:Type} (l:List α):∀c:Nat,(List.replicate c l).flatten.length=c*l.length
 |0=>by simp
 |c+1=>by rw[replicate_succ,flatten_cons,length_append,cn l c,Nat.add_mul];omega
theorem gw {z:Array Value} (hz:0<z.size) (c:Nat):(madeCells z (c*z.size)).toList=(List.replicate c z.toList).flatten:=by
 apply ext_getElem?
 intro k
 by_cases hk:k<c*z.size
 ·rw[lx z.toList c k (by simpa using hk)]
  have hm:=Nat.mod_lt k hz
  unfold madeCells
  simp[hk,hm,getElem!_pos z (k % z.size) hm]
 ·rw[getElem?_eq_none (by simp[size_madeCells];omega),getElem?_eq_none (by rw[cn];simp;omega)]
theorem gW {τ:Store} {w:World} {zr:List AV} {us:List Value} (h:RepL τ w zr us):∀c:Nat,RepL τ w (List.replicate c zr).flatten (List.replicate c us).flatten
 |0=>by simp[RepL]
 |c+1=>by rw[replicate_succ,replicate_succ,flatten_cons,flatten_cons];exact RepL.append h (gW h c)
section
variable {G:Glob} {P:Program}
theorem lP (w:World) (dT sT ty elem:TypeId) (g o dLen dCap sz:Nat) (a:Addr) (sLen sCap:Nat) (cur:Array Value) (t:TypeId) (cs:List Value)
  (hu:P.underlying dT=some (.slice elem)) (hs:(P.info? elem).map (·.size)=some sz)
  (hg:w.heap[g]? =some (.cells cur t (0,0))) (hn:cs.length=Nat.min sLen dLen*sz)
  (hsrc:∀j v,cs[j]? =some v->w.cell? (a.add j)=some v) (hfit:o+cs.length<=cur.size) (h1:∀v∈cs,v.oneCell'=true):
  (Builtin.copy_ #[dT,sT] ty #[.slice (some ⟨g,o,none⟩) dLen dCap,.slice (some a) sLen sCap]).run P w=
   .ok (goInt (Nat.min sLen dLen)) (w.setRow g (cur.toList.take o++cs++cur.toList.drop (o+cs.length)).toArray):=by
 have hl:=run_loadCells_list (P:=P) w a cs hsrc
 have hst:=run_storeCells_at P g o t cs 0 cur w hg (by simpa using hfit) h1
 cases hq:P.info? elem with
 |none=>simp[hq]at hs
 |some i=>
  have hi:i.size=sz:=by simpa[hq]using hs
  simp[Builtin.copy_,run_underlying hu,Builtin.lenOf,Builtin.firstCells,sizeOf,typeInfo,hq,hi,←hn,hl,hst]
theorem kY (w:World) (dT sT ty elem:TypeId) (d a:Option Addr) (dLen dCap sLen sCap sz:Nat) (hu:P.underlying dT=some (.slice elem)) (hs:(P.info? elem).map (·.size)=some sz) (hn:Nat.min sLen dLen=0):
  (Builtin.copy_ #[dT,sT] ty #[.slice d dLen dCap,.slice a sLen sCap]).run P w= .ok (goInt 0) w:=by
 cases hq:P.info? elem with
 |none=>simp[hq]at hs
 |some i=>
  have hl:∀(x:Addr),(loadCells x 0).run P w= .ok #[] w:=λx=>by simpa using run_loadCells_list (P:=P) w x [] (by simp)
  cases d<;>cases a<;>simp[Builtin.copy_,run_underlying hu,Builtin.lenOf,Builtin.firstCells,sizeOf,typeInfo,hq,hn,storeCells,hl]
theorem jq {ty elem:TypeId} {i c sz bytes:Nat} {z:Value} {zr:List AV} {kc:IntKind} {env:Env} {σ:Store} {K:AV->Store->Prop} (hi:env.get i= .int kc (c:Nat)) (hu:P.underlying ty=some (.slice elem))
  (hin:(P.info? elem).map (λi=>(i.zero,i.size,i.bytes))=some (some z,sz,bytes)) (hzs:z.cells.size=sz) (h0:0<sz) (hone:∀v∈z.cells.toList,v.oneCell'=true) (hz:∀τ w,RepL τ w zr z.cells.toList)
  (hb:bytes*c<=281474976710656) (hc:c<1000000000)
  (hk:∀b,b∉σ.keys->K (.sc (.slice (some ⟨b,0,none⟩) c c)) ((b,.cells elem (List.replicate c zr).flatten)::σ)):RAW G P (.makeSlice ty (.tmp i) (.tmp i)) env σ K ⟨⟩:=by
 intro ρ w a op ho hS hE
 have h1:=hE i
 rw[hi]at h1
 simp only[Rep]at h1
 obtain⟨ti,hti,htz⟩:=Option.map_eq_some_iff.1 hin
 simp only[Prod.mk.injEq]at htz
 obtain⟨g1,g2,g3⟩:=htz
 have e3:a.eval (.tmp i)= .int kc (c:Nat):=h1
 have hb':(ti.bytes:Int)*((c:Nat):Int)<=281474976710656:=by
  rw[g3,←Int.natCast_mul];omega
 have hrun:=run_make (P:=P) w ty elem ti z hu hti g1 kc kc (c:Nat) (c:Nat) (by omega) (by omega) hb' (by omega)
 simp only[Int.toNat_natCast,g2]at hrun
 have hnew:(w.alloc (.cells (madeCells z.cells (c*sz)) elem)).heap[w.heap.size]? =some (.cells (madeCells z.cells (c*sz)) elem (0,0)):=heap_alloc_new w _
 have hl:(madeCells z.cells (c*sz)).toList=(List.replicate c z.cells.toList).flatten:=by
  rw[←hzs];exact gw (by omega) c
 refine⟨_,_,.sc (.slice (some ⟨w.heap.size,0,none⟩) c c),_,.inl (by simp[execOp,ho,e3,hrun];exact rfl),hk _ (fH hS),hS.alloc _ _ ⟨_,hnew,?_,?_⟩,Ev.alloc _ _,by simp only[Rep]⟩
 ·intro v hv
  exact hone v (lQ (by omega) hv)
 ·rw[hl]
  exact gW (hz _ _) c
end
section
variable {G:Glob} {b c cap sz:Nat} {e:TypeId} {rows:List (List AV)} {pad:List AV} {σ ρ:Store} {w:World}
theorem Rep.freeze (hS:Sat G ((b,.cells e (rows.flatten++pad))::σ++ρ) w) (hr:∀r∈rows,r.length=sz) (hc:c=rows.length) (hl:rows.length<=cap) (hm:cap<=maxLen):
  Rep (σ++ρ) w (.lst sz rows) (.slice (some ⟨b,0,none⟩) c cap):=by
 subst hc
 obtain⟨vs,hh,h1,hrep⟩:=hS.obj b _ (mem_append.2 (.inl (mem_cons_self ..)))
 have hnd:=hS.nodup
 have hb:b∉(σ++ρ).keys:=by
  rw[cons_append]at hnd
  exact(nodup_cons.1 hnd).1
 have hsub:Sub (σ++ρ) ((b,.cells e (rows.flatten++pad))::σ++ρ):=λp hp=>mem_cons_of_mem _ hp
 have hrl:=hrep.length
 simp only[Rep]
 refine .inr ⟨_,_,rfl,hl,hm,av.of_flat hr ?_⟩
 refine RepAt.of_get λj hj=>?_
 have hj1:j<(rows.flatten++pad).length:=by rw[length_append];omega
 have hj2:j<vs.toList.length:=by omega
 have hg:=hrep.get j hj1 hj2
 rw[getElem_append_left hj]at hg
 rw[Nat.zero_mul,Nat.zero_add,add_lit,Nat.zero_add]
 have hj3:j<vs.size:=by simpa using hj2
 refine⟨vs.toList[j],⟨?_,?_⟩,h1 _ (getElem_mem hj2),Rep.sub hsub hg⟩
 ·simp[World.cell?,hh,hj3]
 ·rintro⟨x,hx,_⟩
  exact hb (mem_map.2 ⟨_,hx,rfl⟩)
theorem Weak.freeze {env:Env} {j:Nat} (hj:env.get j= .sc (.slice (some ⟨b,0,none⟩) c cap)) (hr:∀r∈rows,r.length=sz) (hc:c=rows.length) (hl:rows.length<=cap) (hm:cap<=maxLen):
  Weak G env ((b,.cells e (rows.flatten++pad))::σ) (env.set j (.lst sz rows)) σ:=by
 intro ρ w tmps hS hE
 have hs:SubN σ ((b,.cells e (rows.flatten++pad))::σ):=⟨λp hp=>mem_cons_of_mem _ hp,λhn=>(nodup_cons.1 hn).2⟩
 refine⟨hS.subN hs,Ev.of_sub hs.1 w,λi=>?_⟩
 rw[Env.get_set]
 split
 ·rename_i h0
  rw[←h0]
  have h:=hE j
  rw[hj]at h
  simp only[Rep]at h
  rw[h]
  exact Rep.freeze hS hr hc hl hm
 ·exact Rep.ev (Ev.of_sub hs.1 w) _ _ (hE i)
end
end Go.Av
