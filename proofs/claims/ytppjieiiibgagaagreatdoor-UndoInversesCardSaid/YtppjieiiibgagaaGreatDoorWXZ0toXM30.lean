/-
  UNDO, the patch of an item by the document, plain: the parent of a unit and its place.
-/
import Derived.Test.YtppjieiiibgagaaGreatDoorWXM20toXR4
import Derived.Test.YtppjieiiibgagaaGreatDoorWXE8toXE10
import Derived.Test.YtppjieiiibgagaaGreatDoorWXM9toXOpE
import Derived.Test.YtppjieiiibgagaaGreatDoorWXE1toXE5
set_option linter.all false
namespace Go.Av
open Go Go.RowKit Go.Proofs List
def l6 {i o:Idd} {b:List U}:∀(a:List U) (n:Int),i∉U.idss a->gL i o (a++b) n=gL i o b (n+a.length)
 |[],n,_=>by simp
 |k::a,n,h=>by
  rw[eH,mem_append,not_or]at h;have D:k.id≠i:=λe=>h.1 (e ▸ cS k);rw[cons_append,gL,if_neg D,if_neg h.1,l6 a (n+1) h.2,length_cons];congr 1;omega
def parX_way {i:Idd} (u:U) (E:u.ids.Nodup) (hi:i∈u.ids):u.id≠i->∃p d j,aL i u=some (p,d,j)/\parX i u=(p.id,(j:Int),true):=by
 refine rG (i:=i) (p:=λu=>u.id≠i->∃p d j,aL i u=some (p,d,j)/\parX i u=(p.id,(j:Int),true)) ?_ ?_ u E hi
 ·intro u _ h F;exact absurd h F
 ·intro u a k b E h s ih _;rw[parX_eq,if_neg h,s.eq,l6 a 0 s.left,gL];by_cases D:k.id=i
  ·rw[if_pos D,ga h s D];exact⟨u,0,a.length,rfl,by rw[Int.zero_add]⟩
  ·rw[if_neg D,if_pos s.mem,fq h s D];obtain⟨p,d,j,I,J⟩:=ih D;exact⟨p,d+1,j,by rw[I];rfl,J⟩
def parX_all {i:Idd} {u:U} (E:u.ids.Nodup) (hi:i∈u.ids) (D:u.id≠i):parX i u=((parR i u).1.id,((parR i u).2.2:Int),true):=by
 obtain⟨p,d,j,F,I⟩:=parX_way u E hi D;obtain⟨N,J,M,f1,f2,_⟩:=aU E hi D;rw[F]at f1;simp only[Option.some.injEq,Prod.mk.injEq]at f1;rw[I,f2,f1.1,f1.2.2]
def oA {u:U} (h:Good u) {i t:Idd} (hi:i∈u.ids) (F:u.id≠i) (X:t∈u.ids) {wh:Int} (h0:0<=wh) (h3:wh<=3) {q:Idd} {k:Nat} (e:eu u i t wh=some (q,k)):q∈u.ids/\q∉(fnd i u).ids/\q∈(without i u).ids:=by
 obtain⟨g1,g2,g3,A,B,hA,Y,Z⟩:=dy h hi F;obtain⟨own,dO,j,w1,w2,O⟩:=aU h.nd hi F;obtain⟨a,x,b,s,hx,hj,hl⟩:=O.split;have M:fnd i u=x:=aB hl
 have E:q∈u.ids/\q∉(fnd i u).ids:=by
  unfold eu at e;rw[w1]at e;simp only at e;split at e
  ·cases e
  ·rename_i V;rw[not_or]at V;split at e
   ·injection e with e;injection e with e3 e4
    subst e3;refine⟨O.mem,?_⟩;rw[M];have:=(rB O.nd).2;rw[s.eq,pt,eH]at this;exact λD=>this (mem_append.2 (.inr (mem_append.2 (.inl D))))
   ·rename_i T;obtain⟨⟨q',k'⟩,I,e6⟩:=Option.map_eq_some_iff.1 e
    injection e6 with e7 e8
    subst e7
    have hr:¬(besides wh=true/\t=u.id):=by
     rintro⟨r1,r2⟩
     have J:wh=2\/wh=3:=by simpa[besides]using r1
     unfold spot at I;rw[bT r2.symm]at I
     rcases J with J|J<;>simp[J]at I
    obtain⟨P,dp,k2,N⟩:=g7 h.nd X h0 h3 hr;have:=N.spot;rw[I]at this
    injection this with this
    injection this with e9 e10
    simp only at e9 ⊢;rw[e9];refine⟨N.mem,N.out i hi λD=>?_⟩;exact V.1 ((fL u h.nd X hi).2 ⟨T,D⟩)
 refine⟨E.1,E.2,?_⟩;rw[Z];have:=E.1;rw[Y]at this
 rcases mem_append.1 this with D|D
 ·exact mem_append.2 (.inl D)
 ·rcases mem_append.1 D with D|D
  ·exact absurd D E.2
  ·exact mem_append.2 (.inr D)
def pn {i:Idd} {f:U->U}:∀us:List U,(U.wths i f us).length=us.length
 |[]=>by rw[sD]
 |u::us=>by
  rw[rX];split
  ·rw[length_cons,length_cons,pn us]
  ·rfl
def oU {u:U} (h:Good u) {i q:Idd} (hi:i∈u.ids) (aa:u.id≠i) (O:q∈u.ids) (F:q∉(fnd i u).ids) {own:U} {V j:Nat} (T:aL i u=some (own,V,j)):
  (fnd q (without i u)).kids.length=if q=own.id then own.kids.length-1 else (fnd q u).kids.length:=by
 have N:=eU u h.nd hi T
 obtain⟨a,x,b,s,hx,Y,Z⟩:=N.split
 have M:fnd i u=x:=aB Z
 rw[M]at F
 have X:without i u=U.wth own.id (λy=>{y with kids:=aG y.kids j}) u:=by unfold without;rw[T]
 subst Y
 have I:=jp (t:=q) h.nd N s.eq F
 have D:=(cr u h.nd O).2
 have J:fnd q (without i u)=U.wth own.id (λy=>{y with kids:=aG y.kids a.length}) (fnd q u):=by
  rw[X];refine aB ?_;rw[I,getLast?_map,D,Option.map_some]
 rw[J]
 by_cases E:q=own.id
 ·subst E
  rw[if_pos rfl,N.fnd,aZ rfl,s.eq];simp only;rw[bc,length_append,length_append,length_cons];omega
 ·rw[if_neg E,rR,if_neg (by rw[(cr u h.nd O).1];exact E)]
  exact pn _
def goes_le {u:U} (h:Good u) {i t:Idd} (hi:i∈u.ids) (E:u.id≠i) (Y:t∈u.ids) {wh:Int} (T:0<=wh) (V:wh<=3) {q:Idd} {k:Nat} (e:eu u i t wh=some (q,k)):k<=(fnd q (without i u)).kids.length:=by
 obtain⟨m1,m2,m3⟩:=oA h hi E Y T V e;obtain⟨own,dO,j,M,w2,X⟩:=aU h.nd hi E;obtain⟨p1,p2,_⟩:=er h i _ M;change j<own.kids.length at p1;rw[oU h hi E m1 m2 M];unfold eu at e;rw[M]at e;simp only at e;split at e
 ·cases e
 ·split at e
  ·injection e with e;injection e with e3 e4
   rw[if_pos e3.symm];omega
  ·obtain⟨⟨q',Z⟩,N,O⟩:=Option.map_eq_some_iff.1 e;have J:=spot_le h N
   injection O with e7 e8
   simp only at e7 e8;subst e7;by_cases D:q'=own.id
   ·rw[if_pos D];rw[D,X.fnd]at J;split at e8
    ·omega
    ·rename_i F;have:¬j<Z:=λI=>F ⟨D,I⟩;omega
   ·rw[if_neg D];split at e8
    ·rename_i F;exact absurd F.1 D
    ·omega
structure MvOk (u:U) (i t:Idd) (wh:Int) (P:U) (dp:Nat):Prop where
 kids:P.kids.length<=64
 dp:dp<=2000
 here:fnd P.id u=P
 out:t≠i->P.id∈(without i u).ids
 pos:t≠i->wh=2\/wh=3->∃n,firstAt (λk=>decide (k.id=t)) (fnd P.id (without i u)).kids=some n
 few:t≠i->(fnd P.id (without i u)).kids.length<=64
def ln {α:Type} {p:α->Bool}:∀{l:List α} {x},x∈l->p x=true->∃n,firstAt p l=some n
 |[],x,h,_=>by cases h
 |a::l,x,h,hp=>by
  rw[firstAt];by_cases D:p a=true
  ·rw[if_pos D];exact⟨0,rfl⟩
  ·rw[if_neg D]
   rcases mem_cons.1 h with rfl|h'
   ·exact absurd hp D
   ·obtain⟨n,e⟩:=ln h' hp;rw[e];exact⟨n+1,rfl⟩
def rest_ids {u:U} (T:u.ids.Nodup) {i:Idd} {own:U} {d j:Nat} (w1:aL i u=some (own,d,j)) (N:Par i u own d j) {P:U} (X:P.id∈u.ids) (O:fnd P.id u=P) (V:P.id∉(fnd i u).ids):
  (fnd P.id (without i u)).kids.map U.id=(cA P own j).map U.id:=by
 obtain⟨a,x,b,s,hx,Z,hl⟩:=N.split
 have M:fnd i u=x:=aB hl
 rw[M]at V
 subst Z
 have Y:without i u=U.wth own.id (λy=>{y with kids:=aG y.kids a.length}) u:=by unfold without;rw[w1]
 rw[Y]
 have D:=jp (t:=P.id) T N s.eq V
 obtain⟨F,I⟩:∃F:U->U,F=λy=>{y with kids:=aG y.kids a.length}:=⟨_,rfl⟩
 rw[←I]at D ⊢
 have J:fnd P.id (U.wth own.id F u)=U.wth own.id F P:=by
  refine aB ?_;rw[D,getLast?_map,(cr u T X).2,O];rfl
 rw[J]
 unfold cA
 by_cases E:own.id=P.id
 ·have e:P=own:=by rw[←O,←E,N.fnd]
  subst e;rw[if_pos rfl,aZ rfl,I]
 ·rw[if_neg E,rR,if_neg (Ne.symm E)]
  simp only;exact j2 U.id (dg U.id (λy=>by rw[I]) λ_ _=>rfl) P.kids
def mv_ok {u:U} (F:Good u) {i t:Idd} (hi:i∈u.ids) (M:i≠u.id) {wh:Int} {P:U} {dp k:Nat} (g:Goal u t wh P dp k) (Z:t≠i->t∉(fnd i u).ids):MvOk u i t wh P dp:=by
 have V:P∈u.flat:=by
  have:=aJ u F.nd g.mem;rw[g.here]at this;exact this
 have hk:=ca (F.node _ V);obtain⟨own,d,j,w1,w2,T⟩:=aU F.nd hi (Ne.symm M);obtain⟨J,-,-,A,B,-,hA,hB⟩:=dy F hi (Ne.symm M)
 have E:t≠i->P.id∈(without i u).ids:=by
  intro h;have I:=g.out i hi (Z h);have D:=g.mem;rw[hA,mem_append,mem_append]at D;rw[hB,mem_append]
  rcases D with D|D|D
  ·exact .inl D
  ·exact absurd D I
  ·exact .inr D
 refine⟨hk,?_,g.here,E,?_,?_⟩
 ·have I:=(fI (f:=λy=>y) u F.nd g.mem).2;have D:=g.deep;have h3:=F.dep;omega
 ·intro h hw;have hr:=rest_ids F.nd w1 T g.mem g.here (g.out i hi (Z h));have N:=g.pos
  rcases N with⟨e,_⟩|⟨e,_⟩|⟨_,j',a,y,b,X,O,e3,e4,_⟩
  ·omega
  ·omega
  ·have Y:t∈(cA P own j).map U.id:=by
    unfold cA;split
    ·next ho=>
     have e:P=own:=by rw[←g.here,←ho,T.fnd]
     obtain⟨a',x,b',s,hx,hj,hl⟩:=T.split;subst e;subst hj;rw[s.eq,bc]
     have:y∈a'++x::b':=by rw[←s.eq,X];simp
     rw[mem_map];refine⟨y,?_,O⟩;rw[mem_append,mem_cons]at this;rw[mem_append]
     rcases this with I|rfl|I
     ·exact .inl I
     ·exact absurd (O.symm.trans hx) h
     ·exact .inr I
    ·rw[X];exact mem_map.2 ⟨y,by simp,O⟩
   rw[←hr,mem_map]at Y;obtain⟨z,hz,he⟩:=Y;exact ln hz (decide_eq_true he)
 ·intro h;have:=aJ (without i u) J.nd (E h);exact ca (J.node _ this)
def mvR (u:U) (i t:Idd) (d:Dd) (p:U) (dp:Nat):U×Int:=
 if bB p (cA p (parR i u).1 (parR i u).2.2) (fnd i u)≠0 then (u,bB p (cA p (parR i u).1 (parR i u).2.2) (fnd i u))
 else if 64<=(cA p (parR i u).1 (parR i u).2.2).length\/8<dp+1+(fnd i u).dep then (u,6)
 else if t=i then (u,0)
 else (U.put {fnd p.id (U.put {(parR i u).1 with kids:=aG (parR i u).1.kids (parR i u).2.2} u)with kids:=aH (fnd p.id (U.put {(parR i u).1 with kids:=aG (parR i u).1.kids (parR i u).2.2} u)).kids (atR (fnd p.id (U.put {(parR i u).1 with kids:=aG (parR i u).1.kids (parR i u).2.2} u)).kids t d.it.wh) (fnd i u)} (U.put {(parR i u).1 with kids:=aG (parR i u).1.kids (parR i u).2.2} u),0)
def movR_eq (u:U) (i t:Idd) (d:Dd):movR u i t d=if i=u.id\/besides d.it.wh=true/\t=u.id\/1<(U.way t (fnd i u)).length\/(U.way t (fnd i u)).length=1/\besides d.it.wh=false then (u,9)
  else mvR u i t d (if besides d.it.wh then (parR t u).1 else fnd t u) (if besides d.it.wh then (parR t u).2.1 else (U.way t u).length-1):=rfl
def W_tail9 {G:Glob} {P:Program} {a b c d e f g h k X:SCode} {Q:Exit->Env->Store->Prop} {E:Tag Q} {env:Env} {σ:Store}
  (D:∀Y,Y=X->W G P (.seq a (.seq b (.seq c (.seq d (.seq e (.seq f (.seq g (.seq h (.seq k Y))))))))) Q env σ ⟨⟩):W G P (.seq a (.seq b (.seq c (.seq d (.seq e (.seq f (.seq g (.seq h (.seq k X))))))))) Q env σ E:=D X rfl
def nodup6 {a b c d e f:Nat} {T:Prop} (h:(¬a=b/\¬a=c/\¬a=d/\¬a=e/\¬a=f)/\(¬b=c/\¬b=d/\¬b=e/\¬b=f)/\(¬c=d/\¬c=e/\¬c=f)/\(¬d=e/\¬d=f)/\¬e=f/\T):[a,b,c,d,e,f].Nodup:=by
 obtain⟨⟨N,O,V,X,Y⟩,⟨Z,o7,o8,o9⟩,⟨D,E,F⟩,⟨I,J⟩,M,_⟩:=h;simp[*]
section
variable (G:Glob)
set_option maxHeartbeats 8000000 in
def f81 (u:U) (hu:Good u) (i:Idd) (hi:i∈u.ids) (d:Dd) (h0:0<=d.it.wh) (h3:d.it.wh<=3) (i4:d.it.to_.length<1000000) (i5:∀s∈d.it.to_,s.label.length<1000000000000000000):
  Pure G Tryz.prog 81 [.agg u.cs,.agg i.cs,.agg d.cs] (aV (if (one u d.it.to_).2≠0 then (u,(one u d.it.to_).2)else movR u i (one u d.it.to_).1 d)):=by
 have bk:=hu.short.1
 have hO:=f32 G u d.it.to_ bk hu.cnt i4 i5
 unfold gQ at hO
 have gn:=bH (u:=u) (p:=d.it.to_)
 have ad:=f82 G i u bk
 have fl:=(lP i u).1 hi
 obtain⟨ni,k6,fl⟩:=fl
 rw[fl]at ad
 obtain⟨⟨t,e⟩,i9⟩:∃z,one u d.it.to_=z:=⟨_,rfl⟩
 rw[i9]at hO gn ⊢
 simp only at hO gn ⊢
 have cm:=b0 u
 rcases Classical.em (e=0)with he|he
 case inr=>
  rw[if_pos he];unfold Dd.cs aV;rw[dT];refine Pure.w c81 λR hR=>?_;unfold s81 r81;have e1:decide (e≠0)=true:=decide_eq_true he;(repeat' (first|(with_reducible refine ab hO ?_)|simp only[EV,seval,e1,D]|simp only[EV,seval,e1]|(with_reducible intro dc J;(try(have E:=J;simp only[EVK]at E;first|(have D:=AI E D)|(have D:=E))))|fail))
  all_goals exact RQ hR
 subst he
 rw[if_neg (by simp),movR_eq]
 have ht:=gn rfl
 obtain⟨X,hX⟩:∃X,fnd i u=X:=⟨_,rfl⟩
 have el:X.Tame:=by rw[←hX];exact(hu.short.node (aJ u hu.nd hi)).1
 have T:=f82 G t X el
 rw[hX]at ad ⊢
 unfold eN at T
 have ix:=ee t X
 obtain⟨Q,hQ⟩:∃Q,mvR u i t d (if besides d.it.wh then (parR t u).1 else fnd t u) (if besides d.it.wh then (parR t u).2.1 else (U.way t u).length-1)=Q:=⟨_,rfl⟩
 rw[hQ]
 have hb:besides d.it.wh=(decide (d.it.wh=2)||decide (d.it.wh=3)):=by unfold besides;rw[Bool.decide_or]
 obtain⟨bb,e5⟩:∃bb,besides d.it.wh=bb:=⟨_,rfl⟩
 rw[e5]at hb ⊢
 unfold Dd.cs aV
 rw[dT]
 rw[b0 X]at ad T
 simp only[Idd.cs]at ad T ⊢
 rw[cm]at hO ad ⊢
 refine Pure.w c81 λR hR=>?_
 unfold s81 r81
 refine W_tail9 (λY hY=>?_)
 have tail:∀(P:U) (dp:Nat) (b3 b6 b8 aa an ac:Nat) (Z:List AV),[ac,an,aa,b8,b6,b3].Nodup->i≠u.id->MvOk u i t d.it.wh P dp->(∀z σ,AVle z (aV (mvR u i t d P dp))->RET z σ R)->
   W G Tryz.prog Y (retQ [(6,some (true,8)),(7,none)] R) [(3,.p b3),(4,.ref i.cs),(5,.ref d.cs),(6,.p b6),(8,.p b8),(10,.bool bb),(11,.p aa),(15,.p ac),(16,.i dp)]
    [(ac,.cells 27 P.cs),(an,.cells 27 Z),(aa,.cells 27 X.cs),(b8,.cells 23 t.cs),(b6,.cells 27 zU),(b3,.cells 27 u.cs)] ⟨⟩:=by
  intro P dp b3 b6 b8 aa an ac Z fx bh O N
  obtain⟨old,dO,j,w1,w2,bd⟩:=aU hu.nd hi (Ne.symm bh)
  obtain⟨hj,hp,_⟩:=er hu i _ w1
  simp only at hj hp
  have hP:=f83 G i u bk
  unfold iP at hP
  rw[eD u hu.nd hi,w1]at hP
  have hN:=f143 G P.kind X.kind
  have ea:=f144 G X el
  unfold mvR at N
  rw[w2,hX]at N
  simp only at N hP
  rw[nodup_cons]at fx
  simp only[mem_cons,not_mem_nil,or_false,not_or,nodup_cons,nodup_nil,and_true,not_false_eq_true]at fx
  obtain⟨⟨n1,n2,n3,n4,n5⟩,⟨n6,n7,n8,n9⟩,⟨cp,cw,d0⟩,⟨d1,d2⟩,d3⟩:=fx
  have hs:cA P old j=if old.id=P.id then aG P.kids j else P.kids:=rfl
  clear hO ad T hR hQ
  rw[b0 P,b0 X,b0 u]
  unfold Dd.cs
  rw[dT]
  simp only[Idd.cs,zU]at hP ⊢
  rw[b0 old,b0 u]at hP
  rw[b0 X]at ea
  subst hY
  cases e7:nests P.kind X.kind with
  |false=>
   rw[e7]at hN
   have g6:bB P (cA P old j) X=9:=by unfold bB;rw[e7,if_pos rfl]
   rw[g6,if_pos (by decide)]at N;unfold aV at N;simp only at N;rw[b0 u]at N;(repeat' (first|(with_reducible refine ab hN ?_)|simp only[EV,seval,n1,n2,n3,n4,n5,n6,n7,n8,n9,cp,cw,d0,d1,d2,d3]|fail))
   all_goals exact N _ _ (.inl (.inl rfl))
  |true=>
   rw[e7]at hN;have k0:=X.dep_ge
   have jb:X.dep<1000000:=by
    have h1:=X.dep_cnt;have h2:=el.2;unfold U.cnt at h1;omega
   have k3:=O.dp;have v1:IntKind.i64.wrap ((dp:Int)+1)=(dp:Int)+1:=av (by omega) (by omega);have v2:IntKind.i64.wrap ((dp:Int)+1+X.dep)=(dp:Int)+1+X.dep:=av (by omega) (by omega);have i3:=O.kids;have go:=f84 G old.kids j hj (by omega)
   have be:U.put {old with kids:=aG old.kids j} u=without i u:=by
    have:=fv u hu.nd bd.mem λl=>aG l j;rw[bd.fnd]at this;rw[this];unfold without;rw[w1]
   rw[be]at N;obtain⟨l,hl⟩:∃l,cA P old j=l:=⟨_,rfl⟩
   have k4:l.length<=64:=by
    rw[←hl];unfold cA;split
    ·next ho=>
     have e:P=old:=by rw[←O.here,←ho,bd.fnd]
     rw[e,iC hj];omega
    ·exact i3
   have g6:bB P l X=if bW l X.kind X.label then 10 else 0:=by unfold bB;rw[e7,if_neg (by decide)]
   rw[hl,g6]at N;have gs:=f88 G l X.kind X.label (by omega)
   obtain⟨b1,e1,M⟩:∃b1,decide (old.id=P.id)=b1/\(b1=true/\P=old/\l=aG old.kids j\/b1=false/\l=P.kids):=by
    rcases Classical.em (old.id=P.id)with ho|ho
    ·exact⟨true,decide_eq_true ho,.inl ⟨rfl,by rw[←O.here,←ho,bd.fnd],by rw[←hl];unfold cA;rw[if_pos ho,O.here.symm,←ho,bd.fnd]⟩⟩
    ·exact⟨false,decide_eq_false ho,.inr ⟨rfl,by rw[←hl];unfold cA;rw[if_neg ho]⟩⟩
   have bw:bW l X.kind X.label=true->∀z σ,AVle z (aV (u,10))->RET z σ R:=λh=>by
    rw[h,if_pos rfl,if_pos (by decide)]at N;exact N
   have bx:bW l X.kind X.label=false->64<=l.length\/8<(dp:Int)+1+X.dep->∀z σ,AVle z (aV (u,6))->RET z σ R:=λh h'=>by
    simp only[h,Bool.false_eq_true,if_false,ne_eq,not_true_eq_false]at N;rw[if_pos h']at N;exact N
   have ch:bW l X.kind X.label=false->¬(64<=l.length\/8<(dp:Int)+1+X.dep)->t=i->∀z σ,AVle z (aV (u,0))->RET z σ R:=λh h' h2=>by
    simp only[h,Bool.false_eq_true,if_false,ne_eq,not_true_eq_false]at N;rw[if_neg h',if_pos h2]at N;exact N
   have ah:bW l X.kind X.label=false->¬(64<=l.length\/8<(dp:Int)+1+X.dep)->t≠i->∀z σ,AVle z (aV (U.put {fnd P.id (without i u)with kids:=aH (fnd P.id (without i u)).kids (atR (fnd P.id (without i u)).kids t d.it.wh) X} (without i u),0))->RET z σ R:=λh h' h2=>by
    simp only[h,Bool.false_eq_true,if_false,ne_eq,not_true_eq_false]at N;rw[if_neg h',if_neg h2]at N;exact N
   clear N;unfold aV at bw bx ch ah;simp only at bw bx ch ah;rw[b0 u]at bw bx ch;have aw:(true&&(true&&(true&&true)))=true:=rfl
   rcases Classical.em (t=i)with V|V
   case inl=>
    subst V;have e0:decide (t=t)=true:=decide_eq_true rfl;clear hl hs be O bd
    rcases M with⟨rfl,rfl,rfl⟩|⟨rfl,rfl⟩
    all_goals(repeat' (first|(with_reducible (first|refine ae (λh=>?_) λh=>?_|refine ai (λh=>?_) λh=>?_)<;>(try simp only[DZ]at h))|(with_reducible first|refine ab hN ?_|refine ab hP ?_|refine ab go ?_|refine ab gs ?_|refine ab ea ?_)|simp only[EV,seval,am,e0,e1,aw,v1,v2,n1,n2,n3,n4,n5,n6,n7,n8,n9,cp,cw,d0,d1,d2,d3,D]|simp only[EV,seval,am,e0,e1,aw,v1,v2,n1,n2,n3,n4,n5,n6,n7,n8,n9,cp,cw,d0,d1,d2,d3]|(with_reducible intro dc J;(try(have E:=J;simp only[EVK]at E;(have D:=E))))|fail))
    all_goals first|exact bw (by assumption) _ _ (.inl (.inl rfl))|exact bx (by assumption) (by omega) _ _ (.inl (.inl rfl))|exact ch (by assumption) (by omega) rfl _ _ (.inl (.inl rfl))
   ·have ah:=λa b=>ah a b V;obtain⟨ex,-,-,-⟩:=dy hu hi (Ne.symm bh);have g5:=ex.short.1;have e8:=O.out V;have hf:=O.few V;have al:=O.pos V;have e0:decide (t=i)=false:=decide_eq_false V;have e4:=f85 G {old with kids:=aG old.kids j} u bk;rw[be,b0 {old with kids:=aG old.kids j},b0 u]at e4;obtain⟨u1,hv⟩:∃u1,without i u=u1:=⟨_,rfl⟩;rw[hv]at ah e4 g5 e8 hf al ex;obtain⟨p1,g0⟩:∃p1,fnd P.id u1=p1:=⟨_,rfl⟩;have eb:=f82 G P.id u1 g5;obtain⟨m0,_,i2⟩:=(lP P.id u1).1 e8;rw[i2,g0,b0 p1]at eb;rw[g0]at ah hf al;have e9:=f148 G p1.kids t (by omega);have ds:=f85 G {p1 with kids:=aH p1.kids (atR p1.kids t d.it.wh) X} u1 g5;rw[b0 {p1 with kids:=aH p1.kids (atR p1.kids t d.it.wh) X}]at ds;simp only[Idd.cs]at e4 eb ds e9;have bn:=λk hk=>f147 G p1.kids k X hk (by omega);rw[b0 X]at bn
    obtain⟨k,hk,e6⟩:∃k:Nat,atR p1.kids t d.it.wh=k/\k<=p1.kids.length/\(d.it.wh=0/\bb=false/\k=0\/d.it.wh=1/\bb=false/\k=p1.kids.length\/bb=true/\∃m:Nat,idxF (λk=>decide (k.id=t)) 0 p1.kids=m/\IntKind.i64.wrap ((m:Int)+1)=((m+1:Nat):Int)/\(d.it.wh=2/\k=m+1\/d.it.wh=3/\k=m)):=by
     have hh:d.it.wh=0\/d.it.wh=1\/d.it.wh=2\/d.it.wh=3:=by omega
     rcases hh with I|I|I|I
     ·exact⟨0,by unfold atR;rw[I];rfl,by omega,.inl ⟨I,by rw[hb,I];rfl,rfl⟩⟩
     ·exact⟨_,by unfold atR;rw[I];rfl,Nat.le_refl _,.inr (.inl ⟨I,by rw[hb,I];rfl,rfl⟩)⟩
     ·obtain⟨m,hm⟩:=al (by omega);have hq:=gA hm;exact⟨m+1,by unfold atR;rw[I,hm];rfl,hq,.inr (.inr ⟨by rw[hb,I];rfl,m,by rw[gz _ _ _ _ hm,Nat.zero_add],by rw[av (by omega) (by omega)];omega,.inl ⟨I,rfl⟩⟩)⟩
     ·obtain⟨m,hm⟩:=al (by omega);have hq:=gA hm;exact⟨m,by unfold atR;rw[I,hm];rfl,by omega,.inr (.inr ⟨by rw[hb,I];rfl,m,by rw[gz _ _ _ _ hm,Nat.zero_add],by rw[av (by omega) (by omega)];omega,.inr ⟨I,rfl⟩⟩)⟩
    rw[hk]at ah ds;have bn:=bn k e6.1;replace e6:=e6.2;clear ch bd ex g0 hv hl hs be O hk al hb
    rcases M with⟨rfl,rfl,rfl⟩|⟨rfl,rfl⟩
    all_goals rcases e6 with⟨I,rfl,rfl⟩|⟨I,rfl,rfl⟩|⟨rfl,m,hm,v3,⟨I,rfl⟩|⟨I,rfl⟩⟩
    all_goals try rw[hm]at e9
    all_goals try rw[show((0:Nat):Int)=0 from rfl]at bn
    all_goals first|(have v4:=v3)|(have v4:=I)
    all_goals(repeat' (first|(with_reducible (first|refine ae (λh=>?_) λh=>?_|refine ai (λh=>?_) λh=>?_)<;>(try simp only[DZ]at h))|(with_reducible first|refine ab hN ?_|refine ab hP ?_|refine ab go ?_|refine ab gs ?_|refine ab ea ?_|refine ab e4 ?_|refine ab eb ?_|refine ab bn ?_|refine ab ds ?_|refine ab e9 ?_)|simp only[EV,seval,am,e0,e1,I,v4,aw,v1,v2,n1,n2,n3,n4,n5,n6,n7,n8,n9,cp,cw,d0,d1,d2,d3,D]|simp only[EV,seval,am,e0,e1,I,v4,aw,v1,v2,n1,n2,n3,n4,n5,n6,n7,n8,n9,cp,cw,d0,d1,d2,d3]|(with_reducible intro dc J;(try(have E:=J;simp only[EVK]at E;(have D:=E))))|fail))
    all_goals first|exact bw (by assumption) _ _ (.inl (.inl rfl))|exact bx (by assumption) (by omega) _ _ (.inl (.inl rfl))|exact ah (by assumption) (by omega) _ _ (.inl (.inl rfl))
 have ft:eN t X= .tup [.agg (if U.way t X=[]then zU else (fnd t X).cs),.i (((U.way t X).length:Int)-1)]:=by
  unfold eN
  rcases I:U.way t X with _|⟨x,l⟩
  ·rfl
  ·simp
 unfold eN at ft
 rw[ft]at T
 obtain⟨Z,hZ⟩:∃Z,(if U.way t X=[]then zU else (fnd t X).cs)=Z:=⟨_,rfl⟩
 have k2:Z.length=8:=by
  rw[←hZ];split
  ·rfl
  ·exact hJ _
 rw[hZ]at T
 have i1:bb=true/\(d.it.wh=2\/d.it.wh=3)\/bb=false/\(d.it.wh=0\/d.it.wh=1):=by
  have hh:d.it.wh=0\/d.it.wh=1\/d.it.wh=2\/d.it.wh=3:=by omega
  rcases hh with h|h|h|h<;>rw[hb,h]<;>simp
 obtain⟨n,hn⟩:∃n,(U.way t X).length=n:=⟨_,rfl⟩
 rw[hn]at T ix
 rw[hn]at hR
 obtain⟨b2,e2,ha⟩:∃b2,decide (i=u.id)=b2/\(b2=true↔i=u.id):=⟨_,rfl,decide_eq_true_iff⟩
 obtain⟨b3,e3,ew⟩:∃b3,decide (t=u.id)=b3/\(b3=true↔t=u.id):=⟨_,rfl,decide_eq_true_iff⟩
 have bo:b2=true->∀z σ,AVle z (aV (u,9))->RET z σ R:=λh=>by rw[if_pos (.inl (ha.1 h))]at hR;exact hR
 have dd:bb=true->b3=true->∀z σ,AVle z (aV (u,9))->RET z σ R:=λh h'=>by rw[if_pos (.inr (.inl ⟨h,ew.1 h'⟩))]at hR;exact hR
 have bs:1<n->∀z σ,AVle z (aV (u,9))->RET z σ R:=λh=>by rw[if_pos (.inr (.inr (.inl h)))]at hR;exact hR
 have dl:n=1->bb=false->∀z σ,AVle z (aV (u,9))->RET z σ R:=λh h'=>by rw[if_pos (.inr (.inr (.inr ⟨h,h'⟩)))]at hR;exact hR
 have M:b2=false->(bb=true->b3=false)->n<=1->(n=1->bb=true)->i≠u.id/\MvOk u i t d.it.wh (if bb then (parR t u).1 else fnd t u) (if bb then (parR t u).2.1 else (U.way t u).length-1)/\∀z σ,AVle z (aV (mvR u i t d (if bb then (parR t u).1 else fnd t u) (if bb then (parR t u).2.1 else (U.way t u).length-1)))->RET z σ R:=by
  intro g1 g2 g3 g4
  have bh:i≠u.id:=λe=>by rw[ha.2 e]at g1;cases g1
  have aw:¬(bb=true/\t=u.id):=λe=>by have:=ew.2 e.2;rw[g2 e.1]at this;cases this
  have i0:X.ids.Nodup:=by rw[←hX];exact fnd_nd u hu.nd hi
  have hx:=way_two (t:=t) X i0;rw[hn]at hx;refine⟨bh,?_,?_⟩
  ·obtain⟨P,dp,k,g⟩:=g7 hu.nd ht h0 h3 (by rw[e5];exact aw);have hr:=g.ref;rw[e5]at hr;rw[hr.1,hr.2];refine mv_ok hu hi bh g λV hm=>?_;rw[hX]at hm;have h1:(U.way t X)≠[]:=bQ.2 hm;have h2:n≠0:=λe=>h1 (length_eq_zero_iff.1 (hn.trans e))
   have h3:n=1:=by omega
   have h4:=hx.2.1 h3;rw[←hX,(cr u hu.nd hi).1]at h4;exact V h4
  ·rw[if_neg (by rintro(h|h|h|h);exact bh h;exact aw h;omega;have:=g4 h.1;rw[h.2]at this;cases this),←hQ,e5]at hR;exact hR
 have bm:=f82 G t u bk
 have hg:eN t u= .tup [.agg (fnd t u).cs,.i (((U.way t u).length-1:Nat):Int)]:=by
  have hy:=ed ht;unfold eN
  rcases I:U.way t u with _|⟨x,l⟩
  ·rw[I]at hy;simp at hy
  ·simp
 rw[hg,cm]at bm
 have ef:b3=false->Pure G Tryz.prog 83 [.agg u.cs,.agg t.cs] (.tup [.agg (parR t u).1.cs,.i (parR t u).2.1,.i (parR t u).2.2]):=λh=>by
  obtain⟨p,d',j',q1,q2,q3⟩:=aU hu.nd ht (λe=>by rw[ew.2 e.symm]at h;cases h);have eg:=f83 G t u bk;unfold iP at eg;rw[eD u hu.nd ht,q1]at eg;rw[q2];exact eg
 obtain⟨F,hF⟩:∃F,fnd t u=F:=⟨_,rfl⟩
 obtain⟨dF,hc⟩:∃dF,(U.way t u).length-1=dF:=⟨_,rfl⟩
 obtain⟨P',gp⟩:∃P',(parR t u).1=P':=⟨_,rfl⟩
 obtain⟨dP,hd⟩:∃dP,(parR t u).2.1=dP:=⟨_,rfl⟩
 rw[hF,b0 F,hc]at bm
 rw[gp,hd,cm,b0 P']at ef
 rw[hF,hc,gp,hd]at M
 simp only[Idd.cs]at bm ef
 unfold aV at bo dd bs dl
 simp only at bo dd bs dl
 rw[cm]at bo dd bs dl
 clear hR ft hZ hX hQ hg cm
 rcases i1 with⟨rfl,I⟩|⟨rfl,I⟩
 ·simp only[if_true]at M
  have t1:=λg1 g2 g3 g4 b3 b6 b8 aa an ac Z hz=>tail P' dP b3 b6 b8 aa an ac Z hz (M g1 g2 g3 g4).1 (M g1 g2 g3 g4).2.1 (M g1 g2 g3 g4).2.2;clear tail M;unfold Dd.cs at t1;rw[b0 P',b0 X,b0 u,dT]at t1;simp only[Idd.cs]at t1
  rcases I with I|I
  all_goals(repeat' (first|(with_reducible (refine ai (λh=>?_) λh=>?_)<;>(try simp only[DZ]at h))|(with_reducible first|refine AI (by omega) ?_|refine ab hO ?_|refine ab ad ?_|refine ab T ?_|refine ab bm ?_|refine ab (ef (by assumption)) ?_)|simp only[EV,seval,I,am,e2,e3,D]|simp only[EV,seval,I,am,e2,e3]|(with_reducible intro dc J;(try(have E:=J;simp only[EVK]at E;first|(have D:=AI E D)|(have D:=E))))|fail))
  all_goals first|exact bo (by assumption) _ _ (.inl (.inl rfl))|exact dd rfl (by assumption) _ _ (.inl (.inl rfl))|exact bs (by omega) _ _ (.inl (.inl rfl))|skip
  all_goals
   rw[I]at t1
   exact t1 (by assumption) (λ_=>by assumption) (by omega) (λ_=>trivial) _ _ _ _ _ _ _ (nodup6 D)
 ·simp only[Bool.false_eq_true,if_false]at M
  have t1:=λg1 g2 g3 g4 b3 b6 b8 aa an ac Z hz=>tail F dF b3 b6 b8 aa an ac Z hz (M g1 g2 g3 g4).1 (M g1 g2 g3 g4).2.1 (M g1 g2 g3 g4).2.2;clear tail M;unfold Dd.cs at t1;rw[b0 F,b0 X,b0 u,dT]at t1;simp only[Idd.cs]at t1;have w2:decide (d.it.wh=2)=false:=decide_eq_false (by omega);have w3:decide (d.it.wh=3)=false:=decide_eq_false (by omega);(repeat' (first|(with_reducible (refine ai (λh=>?_) λh=>?_)<;>(try simp only[DZ]at h))|(with_reducible first|refine AI (by omega) ?_|refine ab hO ?_|refine ab ad ?_|refine ab T ?_|refine ab bm ?_)|simp only[EV,seval,w2,w3,am,e2,e3,D]|simp only[EV,seval,w2,w3,am,e2,e3]|(with_reducible intro dc J;(try(have E:=J;simp only[EVK]at E;first|(have D:=AI E D)|(have D:=E))))|fail))
  all_goals first|exact bo (by assumption) _ _ (.inl (.inl rfl))|exact bs (by omega) _ _ (.inl (.inl rfl))|exact dl (by omega) rfl _ _ (.inl (.inl rfl))|skip
  all_goals
   have h9:=λZ=>t1 (by assumption) (λh=>by cases h) (by omega) (λh=>by omega) _ _ _ _ _ _ Z (nodup6 D)
   subst hY
   (try simp only[EV,seval,D])
   have h9:=h9 (Z++List.drop Z.length [AV.int .i64 0,.i 0,.i 0,.i 0,.str [],.nil,.nil,.nil])
   (try simp only[EV,seval,D]at h9)
   exact h9
end
def ux {n x a b c d e:Nat×AObj}:SubN [n,x,a,b,c,d,e] [a,b,c,n,d,e,x]:=
 nm ((perm_middle (l₁:=[a,b,c]) (l₂:=[d,e,x])).trans (List.Perm.cons _ (perm_middle (l₁:=[a,b,c,d,e]) (l₂:=[])))).symm
section
variable (G:Glob)
def oK (u X:U) (d:Dd) (e:Int) (J:e≠0) (D:Pure G Tryz.prog 206 [.agg u.cs,.agg d.it.cs] (cX (.inr e))):Pure G Tryz.prog 129 [.agg u.cs,.agg X.cs,.agg d.cs] (aV (u,e)):=by
 unfold cX at D;unfold Dd.cs aV;rw[dT]at D ⊢;rw[b0 X];refine Pure.w c129 λR N=>?_;unfold s129 r129;(repeat' (first|(with_reducible (refine ae (λh=>?_) λh=>?_)<;>(try simp only[DZ]at h))|(with_reducible refine ab D ?_)|simp only[EV,seval,J,E]|simp only[EV,seval,J]|(with_reducible intro M I;(try(have F:=I;simp only[EVK]at F;first|(have E:=AI F E)|(have E:=F))))|(exfalso;omega)))
 all_goals exact RQ N
end
section
variable (G:Glob) (hG:GOk G)
include hG
set_option maxHeartbeats 4000000 in
def f129 (u:U) (J:Good u) (d:Dd) (i:Idd) (hO:one u d.it.at_=(i,0)) (F:u.id≠i) (be:d.it.kind=6) (h0:0<=d.it.wh) (h3:d.it.wh<=3) (hp:d.it.at_.length<1000000) (ch:d.it.to_.length<1000000):
  Pure G Tryz.prog 129 [.agg u.cs,.agg (fnd i u).cs,.agg d.cs] (aV (if (one u d.it.to_).2≠0 then (u,(one u d.it.to_).2)else movP u i (one u d.it.to_).1 d)):=by
 have hs:=J.short
 have bs:=J.cnt
 have hi:i∈u.ids:=by have:=bH (u:=u) (p:=d.it.at_);rw[hO]at this;exact this rfl
 have D:=f206 G u d.it hs bs J.nd (good_hk J) (po J) (.inr be) h0 h3 hp ch
 have Z:=(cr u J.nd hi).1
 have al:=aJ u J.nd hi
 have Y:=bH (u:=u) (p:=d.it.to_)
 have bb:dest u d.it=if (one u d.it.to_).2≠0 then .inr (one u d.it.to_).2 else (match eu u i (one u d.it.to_).1 d.it.wh with|none=>.inr 9|some q=>.inl q):=by
  unfold dest;rw[hO];simp[be];rfl
 rw[bb]at D
 obtain⟨⟨t,e⟩,cp⟩:∃z,one u d.it.to_=z:=⟨_,rfl⟩
 rw[cp]at D Y ⊢
 simp only at D Y ⊢
 rcases Classical.em (e=0)with he|he
 ·subst he
  rw[if_neg (by simp)]at D ⊢;have ht:=Y rfl;have ah:=λq k=>oA (q:=q) (k:=k) J hi F ht h0 h3;have ad:=λq k=>goes_le (q:=q) (k:=k) J hi F ht h0 h3;unfold movP;obtain⟨z,hz⟩:∃z,eu u i t d.it.wh=z:=⟨_,rfl⟩;rw[hz]at D ah ad ⊢
  rcases z with _|⟨q,k⟩
  ·exact oK G u _ d 9 (by omega) D
  ·obtain⟨m1,m2,m3⟩:=ah q k rfl;have T:=ad q k rfl;obtain⟨g1,g2,g3,g4⟩:=dy J hi F;obtain⟨own,dO,j,w1,w2,cm⟩:=aU J.nd hi F;have hP:=f135 G i u hs J.nd;unfold jK at hP;rw[w1]at hP;have O:=f218 G u J i hi F;have aw:(fnd i u).Short:=hs.node al;rw[w2];simp only;obtain⟨V,hV⟩:∃V,without i u=V:=⟨_,rfl⟩;rw[hV]at O g1 m3 T ⊢;have ac:=g1.short;have hF:=f27 G q V ac;unfold iL at hF;rw[gw m3,if_neg (by simp)]at hF;have bd:=oc g1 q;have aa:=anc_len m3;have d0:=g1.cnt;clear ah ad bb Y g4 g2 g3 w1 w2 cm hz m1 m2;obtain⟨X,hX⟩:∃X,fnd i u=X:=⟨_,rfl⟩;rw[hX]at Z al aw ⊢;subst Z;have M:=f209 G V q X ac.1 aw.1;have hT:=f208 G hG (fnd q V) X (by omega);have hW:=λbn bx=>f215 G _ _ _ q V ac g1.nd m3 (d226 G bn bx k X _ T (by omega));obtain⟨P,bm⟩:∃P,fnd q V=P:=⟨_,rfl⟩;rw[bm]at hF hT T bd ⊢;obtain⟨tk,cw⟩:∃tk,bB P P.kids X=tk:=⟨_,rfl⟩;rw[cw]at hT ⊢;rw[←aa];obtain⟨an,bo⟩:∃an,(anc q V).length=an:=⟨_,rfl⟩;rw[bo]at M ⊢;unfold cX at D;simp only[Idd.cs]at hF M hP O hW;simp only at D;rw[b0 P]at hF hT;rw[b0 X]at hT M hW ⊢;unfold Dd.cs aV;rw[show(((an+1:Nat):Int))=(an:Int)+1 by omega];refine Pure.w c129 λR hR=>?_;unfold s129 r129;rw[dT]at D ⊢
   rcases Classical.em (tk=0)with h|h
   ·subst h;rw[if_neg (by simp)]at hR;(repeat' (first|(with_reducible (first|refine ae (λh=>?_) λh=>?_|refine ai (λh=>?_) λh=>?_)<;>(try simp only[DZ]at h))|(with_reducible first|refine ab D ?_|refine ab hP ?_|refine ab O ?_|refine ab hF ?_|refine ab hT ?_|refine ab M ?_)|simp only[EV,seval,am,E]|simp only[EV,seval,am]|(with_reducible intro bk N;(try(have I:=N;simp only[EVK]at I;first|(have E:=AI I E)|(have E:=I))))))
    all_goals try(
     refine hR _ _ (.inl (.inl ?_))
     rw[if_pos (by first|exact .inl ⟨by assumption,by omega⟩|exact .inr (by omega))]
     done)
    all_goals
     have bw:¬((q≠own.id/\64<=P.kids.length)\/8<(an:Int)+1+X.dep):=by
      rintro(⟨g2,g3⟩|g4)
      ·first
        |omega
        |exact g2 (by assumption)
      ·omega
     rw[if_neg bw]at hR
     refine bq [(_,_),(_,_)] [_,_,_,_,_] (hW _ _).v (hH _) ux (λr1 d1 hr bh=>?_)
     obtain⟨rfl,rfl⟩:=hr
     refine⟨_,SubN.refl _,?_⟩
     have E:=bh
     simp[Store.keys]at E
     (repeat' (simp only[EV,seval,E]))
     all_goals exact RQ hR
   ·rw[if_pos h]at hR;have h1:decide (tk≠0)=true:=decide_eq_true h;clear M hW bd aa T;(repeat' (first|(with_reducible first|refine ab D ?_|refine ab hP ?_|refine ab O ?_|refine ab hF ?_|refine ab hT ?_)|simp only[EV,seval,h1,E]|simp only[EV,seval,h1]|(with_reducible intro bk N;(try(have I:=N;simp only[EVK]at I;first|(have E:=AI I E)|(have E:=I))))))
    all_goals exact RQ hR
 ·rw[if_pos he]at D ⊢
  exact oK G u _ d e he D
end
end Go.Av
