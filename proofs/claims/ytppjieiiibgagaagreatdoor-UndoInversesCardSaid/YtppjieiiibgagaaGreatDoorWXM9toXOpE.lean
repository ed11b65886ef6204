/-
  ENACT, M9: an insertion by the reference.
-/
import Derived.Test.YtppjieiiibgagaaGreatDoorWXM6toXM8
import Derived.Test.YtppjieiiibgagaaGreatDoorWXE11toXL27
import Derived.Test.YtppjieiiibgagaaGreatDoorWXL18toXL21
import Derived.Test.YtppjieiiibgagaaGreatDoorWXOpI
set_option linter.all false
namespace Go.Av
open Go Go.RowKit Go.Proofs List
def Dd.cs (d:Dd):List AV:=.i d.act:: .i d.item:: .i d.day::d.it.cs
def W_tail5 {G:Glob} {P:Program} {a b c d e X:SCode} {Q:Exit->Env->Store->Prop} {D:Tag Q} {env:Env} {σ:Store}
  (h:∀Y,Y=X->W G P (.seq a (.seq b (.seq c (.seq d (.seq e Y))))) Q env σ ⟨⟩):W G P (.seq a (.seq b (.seq c (.seq d (.seq e X))))) Q env σ D:=h X rfl
def tailR (u:U) (d:Dd) (P:U) (dp k:Nat):U×Int:=
 if bB P P.kids (ba d.it.unit d.act d.item)≠0 then (u,bB P P.kids (ba d.it.unit d.act d.item))
 else if 64<=P.kids.length\/8<(dp:Int)+1+(ba d.it.unit d.act d.item).dep\/1024<u.cnt+(ba d.it.unit d.act d.item).cnt then (u,6)
 else if (ba d.it.unit d.act d.item).ids.any (λy=>decide (y∈u.ids))then (u,5)
 else (U.put {P with kids:=aH P.kids k (ba d.it.unit d.act d.item)} u,0)
def insR_tail (u:U) (i:Idd) (d:Dd):insR u i d=if (d.it.wh=2\/d.it.wh=3)/\i=u.id then (u,9)else tailR u d (bR u i d.it.wh).1 (bR u i d.it.wh).2.1 (bR u i d.it.wh).2.2:=rfl
def aV (q:U×Int):AV:=.tup [.agg q.1.cs,.i q.2]
structure Unit0 (d:Dd):Prop where
 nodes:∀y∈d.it.unit.flat,nodeOk y=true
 cnt:d.it.unit.flat.length<=1024
def wt_le {u:U} (h:∀y∈u.flat,nodeOk y=true):u.wt<=u.flat.length*512:=by
 unfold U.wt
 have:∀l:List U,(∀y∈l,nodeOk y=true)->(l.map λy=>y.head.length+y.words.length).sum<=l.length*512:=by
  intro l
  induction l with
  |nil=>intro _;simp
  |cons x l ih=>
   intro h;have F:=ih λy E=>h y (by simp[E]);have D:=dr (h x (by simp));have I:=D.head.1;have J:=D.words.1;rw[map_cons,sum_cons,length_cons];omega
 exact this u.flat h
def lP (j:Idd) (u:U):(j∈u.ids->∃n:Nat,n<=u.flat.length/\eN j u= .tup [.agg (fnd j u).cs,.i n])/\(j∉u.ids->eN j u= .tup [.agg zU,.i (-1)]):=by
 constructor
 ·intro h;have F:=bQ.2 h;have D:=ee j u;unfold eN
  cases E:U.way j u with
  |nil=>exact absurd E F
  |cons x l=>
   rw[E]at D;exact⟨l.length,by simp at D;omega,rfl⟩
 ·intro h;unfold eN;rw[(cE u).2 h]
section
variable (G:Glob)
set_option maxHeartbeats 2000000 in
def f80 (u:U) (hu:Good u) (i:Idd) (hi:i∈u.ids) (d:Dd) (h0:0<=d.it.wh) (h3:d.it.wh<=3) (hd:Unit0 d):Pure G Tryz.prog 80 [.agg u.cs,.agg i.cs,.agg d.cs] (aV (insR u i d)):=by
 have hs:=hu.short;have eb:=hu.cnt;have e5:=en hd.nodes (by have:=hd.cnt;omega);have al:=f142 G d.it.unit d.act d.item e5 (by have h1:=wt_le hd.nodes;have h2:=hd.cnt;omega);obtain⟨s1,s2,s3,s4,s5⟩:=il d.it.unit d.act d.item hd.nodes;rw[insR_tail];refine Pure.w c80 λR O=>?_;unfold s80 r80;refine W_tail5 λY hY=>?_;unfold aV at O;have tail:∀(P:U) (dp k T V:Nat),¬V=T->P.kids.length<=64->k<=P.kids.length->dp<=2000->(∀z σ,AVle z (aV (tailR u d P dp k))->RET z σ R)->
   W G Tryz.prog Y (retQ [(6,some (true,8)),(7,none)] R) [(3,.ref u.cs),(5,.ref d.cs),(6,.p T),(8,.p V),(9,.i dp),(10,.i k)] [(V,.cells 27 P.cs),(T,.cells 27 zU)] ⟨⟩:=by
  intro P dp k T V hb ea hk ef hT
  unfold aV tailR at hT
  obtain⟨x,hx⟩:∃x,ba d.it.unit d.act d.item=x:=⟨_,rfl⟩
  rw[hx]at hT al s1 s2 s3 s4 s5
  have ad:¬T=V:=λe=>hb e.symm
  have bs:x.Short:=en s5 (by rw[s3];have:=hd.cnt;omega)
  have hN:=f143 G P.kind x.kind
  have d2:=f88 G P.kids x.kind x.label (by omega)
  have bx:=f144 G x bs.1
  have d1:=f145 G u hs.1
  have bw:=f145 G x bs.1
  have ch:=f146 G x bs.1
  have cm:=f147 G P.kids k x hk (by omega)
  have bd:=f85 G {P with kids:=aH P.kids k x} u hs.1
  have eg:=x.dep_ge
  have e9:=x.dep_cnt
  have d3:x.cnt=d.it.unit.flat.length:=by unfold U.cnt;rw[s3]
  have e8:(0:Int)<=x.cnt/\x.cnt<=1024:=by have:=hd.cnt;omega
  have e7:(0:Int)<=u.cnt/\u.cnt<=1024:=by unfold U.cnt;omega
  have w1:IntKind.i64.wrap ((dp:Int)+1)=(dp:Int)+1:=av (by omega) (by omega)
  have w2:IntKind.i64.wrap ((dp:Int)+1+x.dep)=(dp:Int)+1+x.dep:=av (by omega) (by omega)
  have w3:IntKind.i64.wrap (u.cnt+x.cnt)=u.cnt+x.cnt:=av (by omega) (by omega)
  have cp:=λy=>f82 G y u hs.1
  clear s1 s2 s4 d3
  rw[b0]at al
  rw[b0 {P with kids:=aH P.kids k x}]at bd
  subst hY
  unfold Dd.cs
  rw[b0 P]
  rw[b0 x]at al bx bw ch cm
  (repeat' (first|(with_reducible (first|refine ae (λh=>?_) λh=>?_|refine ai (λh=>?_) λh=>?_)<;>(try simp only[DZ]at h))|(with_reducible first|refine ab al ?_|refine ab hN ?_|refine ab d2 ?_|refine ab bx ?_|refine ab d1 ?_|refine ab bw ?_|refine ab ch ?_)|simp only[EV,seval,hb,ad,w1,w2,w3,D]|simp only[EV,seval,hb,ad,w1,w2,w3]|(with_reducible intro N F;(try(have E:=F;simp only[EVK]at E;(have D:=E))))|(with_reducible first|refine af ?_ ?_|refine ag ?_)|fail))
  all_goals try(refine hT _ _ (Or.inl (Or.inl ?_));simp[bB, *];done)
  all_goals have cw:bB P P.kids x=0:=by simp[bB, *]
  all_goals try(
   refine hT _ _ (Or.inl (Or.inl ?_))
   rw[if_neg (by rw[cw];simp),if_pos (by exact .inl (by omega))]
   done)
  all_goals
   have e4:¬(64<=P.kids.length\/8<(dp:Int)+1+x.dep\/1024<u.cnt+x.cnt):=by omega
   rw[if_neg (by rw[cw];simp),if_neg e4]at hT
   have el:x.flat.length<=1024:=by rw[s3];exact hd.cnt
   refine ap x.flat (λi r (c:Unit)=>∀y∈x.flat.take i,y.id∉u.ids) (λi c=>[(3,.ref u.cs),(6,.p T),(8,.p V),(10,.i k),(11,.p N),(12,.lst 8 (x.flat.map U.cs)),(13,.i i)]) (λi c=>[(N,.cells 27 [.i x.id.act,.i x.id.item,.i x.id.n,.i x.kind,.str x.label,.lst 4 (x.head.map Wd.cs),.lst 4 (x.words.map Wd.cs),.lst 8 (x.kids.map U.cs)]),(V,.cells 27 [.i P.id.act,.i P.id.item,.i P.id.n,.i P.kind,.str P.label,.lst 4 (P.head.map Wd.cs),.lst 4 (P.words.map Wd.cs),.lst 8 (P.kids.map U.cs)]),(T,.cells 27 zU)]) () (by simp) (a0 _ _) (by omega) (λi y r c an I J=>?_) (λc an hn=>?_)
   ·have hg:=cp y.id
    rcases Classical.em (y.id∈u.ids)with hm|hm
    ·obtain⟨n,ew,e⟩:=(lP y.id u).1 hm;rw[e]at hg;simp only[Idd.cs]at hg;have ac:(x.ids.any λy=>decide (y∈u.ids))=true:=any_eq_true.2 ⟨y.id,mem_map.2 ⟨y,I.mem,rfl⟩,decide_eq_true hm⟩;rw[if_pos ac]at hT;(repeat' (first|(with_reducible (refine ae (λh=>?_) λh=>?_)<;>(try simp only[DZ]at h))|(with_reducible refine ab hg ?_)|simp only[EV,seval,I.yes,I.le0,I.lt',I.row,J,I.get,hb,ad,D]|(with_reducible intro N F;(try(have E:=F;simp only[EVK]at E;(have D:=AI E D))))|(with_reducible first|refine af ?_ ?_|refine ag ?_)|(exfalso;omega)|fail))
     all_goals exact hT _ _ (Or.inl (Or.inl rfl))
    ·have e:=(lP y.id u).2 hm;rw[e]at hg;simp only[Idd.cs]at hg;(repeat' (first|(with_reducible refine ab hg ?_)|simp only[EV,seval,I.yes,I.le0,I.lt',I.row,J,I.get,hb,ad,D]|(with_reducible intro N F;(try(have E:=F;simp only[EVK]at E;(have D:=AI E D))))|(with_reducible first|refine af ?_ ?_|refine ag ?_)|fail))
     all_goals first
      |(exfalso;omega)
      |(refine ak I () ?_ (Weak.sub ((SubN.refl _).tail _))
        intro z hz
        rw[I.take,mem_append,mem_singleton]at hz
        rcases hz with hz|rfl
        ·exact an z hz
        ·exact hm)
   ·rw[take_length]at an
    have ac:¬(x.ids.any λy=>decide (y∈u.ids))=true:=by
     rw[any_eq_true];rintro⟨y,hy,e6⟩;obtain⟨z,hz,rfl⟩:=mem_map.1 hy;exact an z hz (by simpa using e6)
    rw[if_neg ac]at hT;simp only at bd;(repeat' (first|(with_reducible first|refine ab cm ?_|refine ab bd ?_)|simp only[EV,seval,hn,hb,ad,D]|fail))
    all_goals exact hT _ _ (Or.inl (Or.inl rfl))
 have hG:=f82 G i u hs.1;have ex:=ee i u;have d0:=ed hi
 have ds:eN i u= .tup [.agg (fnd i u).cs,.i (((U.way i u).length-1:Nat):Int)]:=by
  unfold eN
  cases J:U.way i u with
  |nil=>rw[J]at d0;simp at d0
  |cons x l=>simp
 rw[ds]at hG;have dl:=aJ u hu.nd hi;have be:=ca (hu.node _ dl)
 have hh:d.it.wh=0\/d.it.wh=1\/d.it.wh=2\/d.it.wh=3:=by omega
 unfold Dd.cs at tail ⊢;obtain⟨P0,ah⟩:∃P0,fnd i u=P0:=⟨_,rfl⟩;obtain⟨n0,bk⟩:∃n0,(U.way i u).length-1=n0:=⟨_,rfl⟩;rw[ah,bk]at hG;rw[ah]at be
 have aw:n0<=2000:=by omega
 rw[b0 P0]at hG;simp only[Idd.cs]at hG ⊢
 rcases hh with J|J|J|J
 ·have Z:bR u i d.it.wh=(P0,n0,0):=by unfold bR;rw[J];simp[ah,bk]
  rw[if_neg (by omega),Z]at O;simp only at O;have t:=λT V hb=>tail P0 n0 0 T V hb be (by omega) aw O;clear tail;rw[b0 P0]at t;(repeat' (first|(with_reducible refine ab hG ?_)|simp only[EV,seval,J,D]|simp only[EV,seval,J]|(with_reducible intro N F;(try(have E:=F;simp only[EVK]at E;first|(have D:=AI E D)|(have D:=E))))|fail));have h:=t _ _ D.1;subst hY;(try simp only[EV,seval,D]);(try simp only[EV,seval,D]at h);exact h
 ·have Z:bR u i d.it.wh=(P0,n0,P0.kids.length):=by unfold bR;rw[J];simp[ah,bk]
  rw[if_neg (by omega),Z]at O;simp only at O;have t:=λT V hb=>tail P0 n0 P0.kids.length T V hb be (by omega) aw O;clear tail;rw[b0 P0]at t;(repeat' (first|(with_reducible refine ab hG ?_)|simp only[EV,seval,J,D]|simp only[EV,seval,J]|(with_reducible intro N F;(try(have E:=F;simp only[EVK]at E;first|(have D:=AI E D)|(have D:=E))))|fail));have h:=t _ _ D.1;subst hY;(try simp only[EV,seval,D]);(try simp only[EV,seval,D]at h);exact h
 ·by_cases M:i=u.id
  ·rw[if_pos ⟨.inl J,M⟩]at O;simp only at O;clear tail;subst M;have e0:decide (u.id=u.id)=true:=decide_eq_true rfl;(repeat' (first|(with_reducible (refine ae (λh=>?_) λh=>?_)<;>(try simp only[DZ]at h))|(with_reducible refine ab hG ?_)|simp only[EV,seval,J,am,e0,D]|simp only[EV,seval,J,am,e0]|(with_reducible intro N F;(try(have E:=F;simp only[EVK]at E;first|(have D:=AI E D)|(have D:=E))))|fail))
   all_goals first|exact O _ _ (Or.inl (Or.inl rfl))|(exfalso;simp at h;done)
  ·obtain⟨p,dd,j,q1,q2,q3⟩:=aU hu.nd hi (Ne.symm M);have X:=f83 G i u hs.1
   have bo:iP i u= .tup [.agg p.cs,.i dd,.i j]:=by unfold iP;rw[eD u hu.nd hi,q1]
   rw[bo,b0 p]at X
   have bm:p∈u.flat:=by
    have:=aJ u hu.nd q3.mem;rw[q3.fnd]at this;exact this
   have bn:=ca (hu.node _ bm);have dc:=(lh (by rw[eD u hu.nd hi];exact q1)).1;obtain⟨aa,kk,bb,ss,e2,bh,e3⟩:=q3.split
   have e1:j<p.kids.length:=by rw[ss.eq,bh];simp
   have Z:bR u i d.it.wh=(p,dd,j+1):=by unfold bR;rw[J,q2];simp
   rw[if_neg λh=>M h.2,Z]at O;simp only at O;have t:=λT V hb=>tail p dd (j+1) T V hb bn (by omega) (by omega) O;clear tail;rw[b0 p]at t;have e0:decide (i=u.id)=false:=decide_eq_false M
   have w1:IntKind.i64.wrap ((j:Int)+1)=((j+1:Nat):Int):=by rw[av (by omega) (by omega)];omega
   simp only[Idd.cs]at X hG;(repeat' (first|(with_reducible first|refine ab hG ?_|refine ab X ?_)|simp only[EV,seval,J,am,e0,w1,D]|simp only[EV,seval,J,am,e0,w1]|(with_reducible intro N F;(try(have E:=F;simp only[EVK]at E;first|(have D:=AI E D)|(have D:=E))))|fail));exact t _ _ D.1
 ·by_cases M:i=u.id
  ·rw[if_pos ⟨.inr J,M⟩]at O;simp only at O;clear tail;subst M;have e0:decide (u.id=u.id)=true:=decide_eq_true rfl;(repeat' (first|(with_reducible (refine ae (λh=>?_) λh=>?_)<;>(try simp only[DZ]at h))|(with_reducible refine ab hG ?_)|simp only[EV,seval,J,am,e0,D]|simp only[EV,seval,J,am,e0]|(with_reducible intro N F;(try(have E:=F;simp only[EVK]at E;first|(have D:=AI E D)|(have D:=E))))|fail))
   all_goals first|exact O _ _ (Or.inl (Or.inl rfl))|(exfalso;simp at h;done)
  ·obtain⟨p,dd,j,q1,q2,q3⟩:=aU hu.nd hi (Ne.symm M);have X:=f83 G i u hs.1
   have bo:iP i u= .tup [.agg p.cs,.i dd,.i j]:=by unfold iP;rw[eD u hu.nd hi,q1]
   rw[bo,b0 p]at X
   have bm:p∈u.flat:=by
    have:=aJ u hu.nd q3.mem;rw[q3.fnd]at this;exact this
   have bn:=ca (hu.node _ bm);have dc:=(lh (by rw[eD u hu.nd hi];exact q1)).1;obtain⟨aa,kk,bb,ss,e2,bh,e3⟩:=q3.split
   have e1:j<p.kids.length:=by rw[ss.eq,bh];simp
   have Z:bR u i d.it.wh=(p,dd,j):=by unfold bR;rw[J,q2];simp
   rw[if_neg λh=>M h.2,Z]at O;simp only at O;have t:=λT V hb=>tail p dd j T V hb bn (by omega) (by omega) O;clear tail;rw[b0 p]at t;have e0:decide (i=u.id)=false:=decide_eq_false M;simp only[Idd.cs]at X hG;(repeat' (first|(with_reducible first|refine ab hG ?_|refine ab X ?_)|simp only[EV,seval,J,am,e0,D]|simp only[EV,seval,J,am,e0]|(with_reducible intro N F;(try(have E:=F;simp only[EVK]at E;first|(have D:=AI E D)|(have D:=E))))|fail));have h:=t _ _ D.1;subst hY;(try simp only[EV,seval,D]);(try simp only[EV,seval,D]at h);exact h
end
abbrev K5:=Idd×Int×List UInt8×List Wd×List Wd
def U.k5 (y:U):K5:=(y.id,y.kind,y.label,y.head,y.words)
def U.all5 (u:U):List K5:=u.flat.map U.k5
def U.alls5 (us:List U):List K5:=(U.flats us).map U.k5
def rS (u:U):u.all5=u.k5::U.alls5 u.kids:=by unfold U.all5 U.alls5;rw[U.flat_eq];rfl
def U.alls5_nil:U.alls5 []=[]:=by unfold U.alls5;rw[bv];rfl
def sb (u:U) (us:List U):U.alls5 (u::us)=u.all5++U.alls5 us:=by unfold U.alls5 U.all5;rw[aI,map_append]
def sf (a b:List U):U.alls5 (a++b)=U.alls5 a++U.alls5 b:=by unfold U.alls5;rw[cy,map_append]
def ol {i:Idd} {f:U->U} (u:U) (D:u.ids.Nodup) (hi:i∈u.ids):∃l r,u.all5=l++((fnd i u).all5++r)/\(U.wth i f u).all5=l++((f (fnd i u)).all5++r):=by
 refine rG (i:=i) (p:=λu=>∃l r,u.all5=l++((fnd i u).all5++r)/\(U.wth i f u).all5=l++((f (fnd i u)).all5++r)) ?_ ?_ u D hi
 ·intro u _ h;have e:fnd i u=u:=aB (by rw[aN h];rfl);refine⟨[],[],?_,?_⟩
  ·rw[e];simp
  ·rw[aZ h,e];simp
 ·intro u a k b D h s ⟨l,r,e1,e2⟩;rw[s.fnd D s.mem];refine⟨u.k5::(U.alls5 a++l),r++U.alls5 b,?_,?_⟩
  ·rw[rS,s.eq,sf,sb,e1];simp[append_assoc]
  ·rw[s.wth h,rS,show({u with kids:=a++U.wth i f k::b}:U).k5=u.k5 from rfl];simp only;rw[sf,sb,e2];simp[append_assoc]
def k5_ins {u:U} (F:u.ids.Nodup) {q:Idd} (I:q∈u.ids) (k:Nat) (x:U):∃A B,u.all5=A++B/\(U.wth q (λy=>{y with kids:=aH y.kids k x}) u).all5=A++(x.all5++B):=by
 obtain⟨l,r,D,E⟩:=ol (f:=λy=>{y with kids:=aH y.kids k x}) u F I;refine⟨l++((fnd q u).k5::U.alls5 ((fnd q u).kids.take k)),U.alls5 ((fnd q u).kids.drop k)++r,?_,?_⟩
 ·rw[D,rS]
  conv=>lhs;rw[←take_append_drop k (fnd q u).kids]
  rw[sf];simp[append_assoc]
 ·rw[E,rS,show({fnd q u with kids:=aH (fnd q u).kids k x}:U).k5=(fnd q u).k5 from rfl];unfold aH;simp only;rw[sf,sb];simp[append_assoc]
def k5_del {u:U} (M:u.ids.Nodup) {i:Idd} (hi:i∈u.ids) (F:u.id≠i):∃A B,u.all5=A++((fnd i u).all5++B)/\(without i u).all5=A++B:=by
 obtain⟨own,d,j,V,w2,I⟩:=aU M hi F;obtain⟨a,x,b,s,X,O,T⟩:=I.split;have E:fnd i u=x:=aB T;subst O
 have N:without i u=U.wth own.id (λy=>{y with kids:=aG y.kids a.length}) u:=by unfold without;rw[V]
 rw[N,E];obtain⟨l,r,J,D⟩:=ol (f:=λy=>{y with kids:=aG y.kids a.length}) u M I.mem;rw[I.fnd]at J D;rw[s.eq,bc]at D;refine⟨l++(own.k5::U.alls5 a),U.alls5 b++r,?_,?_⟩
 ·rw[J,rS,s.eq,sf,sb];simp[append_assoc]
 ·rw[D,rS,show({own with kids:=a++b}:U).k5=own.k5 from rfl];simp only;rw[sf];simp[append_assoc]
def mc {u:U} (I:u.ids.Nodup) {i:Idd} (hi:i∈u.ids) {f:U->U} (F:∀y,(f y).kids=y.kids):∃A B,u.all5=A++((fnd i u).k5::B)/\(U.wth i f u).all5=A++((f (fnd i u)).k5::B):=by
 obtain⟨l,r,D,E⟩:=ol (f:=f) u I hi;refine⟨l,U.alls5 (fnd i u).kids++r,?_,?_⟩
 ·rw[D,rS];simp
 ·rw[E,rS,F];simp
/-! ### an item that fails changes nothing -/
def insP_err {u:U} {i:Idd} {d:Dd} (h:(insP u i d).2≠0):(insP u i d).1=u:=by
 unfold insP at h ⊢;(repeat' split)<;>(try rfl)
 all_goals(exfalso;simp_all)
def movP_err {u:U} {i t:Idd} {d:Dd} (h:(movP u i t d).2≠0):(movP u i t d).1=u:=by
 unfold movP at h ⊢;(repeat' split)<;>(try rfl)
 all_goals(exfalso;simp_all)
def doP_err {u:U} {d:Dd} (h:(doP u d).2≠0):(doP u d).1=u:=by
 unfold doP at h ⊢;split
 ·rfl
 rename_i c1;rw[if_neg c1]at h;split
 ·rfl
 rename_i c2;rw[if_neg c2]at h;split
 ·rename_i c3;rw[if_pos c3]at h;exact insP_err h
 rename_i c3;rw[if_neg c3]at h;split
 ·split<;>rfl
 rename_i c4;rw[if_neg c4]at h;split
 ·rename_i c5;rw[if_pos c5]at h;exact absurd rfl h
 rename_i c5;rw[if_neg c5]at h;split
 ·rename_i c6;rw[if_pos c6]at h;split
  ·rfl
  ·rename_i c7;rw[if_neg c7]at h;exact absurd rfl h
 rename_i c6;rw[if_neg c6]at h;split
 ·rename_i c7;rw[if_pos c7]at h;exact absurd rfl h
 rename_i c7;rw[if_neg c7]at h;split
 ·rename_i c8;rw[if_pos c8]at h;split
  ·rfl
  ·rename_i c9;rw[if_neg c9]at h;exact absurd rfl h
 rename_i c8;rw[if_neg c8]at h;split
 ·rfl
 rename_i c9;rw[if_neg c9]at h;exact movP_err h
/-! ### the document's words for the same -/
def do_same {u:U} (h:Good u) (d:Dd):doR u d=doP u d:=do_eq u h.fine d λE D=>dU E D
/-! ### sizes -/
def wt5 (k:K5):Nat:=1+k.2.2.2.2.length / 50+k.2.2.2.1.length / 50+k.2.2.1.length / 50
def wtL (L:List K5):Nat:=(L.map wt5).sum
def wtL_nil:wtL []=0:=rfl
def gN (k:K5) (L:List K5):wtL (k::L)=wt5 k+wtL L:=by simp[wtL]
def cb (A B:List K5):wtL (A++B)=wtL A+wtL B:=by simp[wtL]
def stamp_wt (a b:Int):∀(u:U) (n m:Int),wtL (U.stamp a b u n m).1.all5=wtL u.all5:=by
 refine U.ind λu ih n m=>?_
 have h:∀(us:List U),(∀k∈us,∀n m,wtL (U.stamp a b k n m).1.all5=wtL k.all5)->∀n m,wtL (U.alls5 (U.stamps a b us n m).1)=wtL (U.alls5 us):=by
  intro us
  induction us with
  |nil=>intro _ n m;rw[rP]
  |cons x us ihu=>
   intro h n m;rw[rQ];simp only;rw[sb,sb,cb,cb,h x (by simp),ihu (λk D=>h k (by simp[D]))]
 rw[sq,rS,rS u,gN,gN];simp only;rw[h u.kids ih];congr 1;simp[wt5,U.k5,bz]
def all5_node {v:U} {k:K5} (D:k∈v.all5):∃y∈v.flat,y.k5=k:=mem_map.1 D
def wt5_node {v:U} (h:Good v) {k:K5} (D:k∈v.all5):wt5 k<=11:=by
 obtain⟨y,E,rfl⟩:=all5_node D;have s:=dr (h.node y E);have F:=s.label;have I:=s.head.1;have J:=s.words.1;simp only[wt5,U.k5];omega
def qu {u:U} (h:Good u):bS u=true:=by
 unfold bS;simp only[Bool.and_eq_true,decide_eq_true_eq];refine⟨all_eq_true.2 h.node,by have:=h.dep;unfold U.dep;omega,by have:=h.cnt;unfold U.cnt;omega,?_⟩;unfold fP;rw[Bool.or_eq_true,Bool.and_eq_true,decide_eq_true_eq,decide_eq_true_eq];refine .inr ⟨?_,h.nd⟩;rw[decide_eq_decide];exact h.root.symm
/-! ### from nothing -/
def fE:U:=⟨zId,0,[],[],[],[]⟩
def lL:Good fE:=by
 have D:fE.flat=[fE]:=by rw[U.flat_eq];show fE::U.flats []=_;rw[bv]
 refine⟨?_,?_,?_,?_,⟨λ_=>rfl,λ_=>rfl⟩,λh=>absurd rfl h⟩
 ·unfold U.ids;rw[D];simp
 ·rw[D];intro y E;simp only[mem_singleton]at E;subst E;decide
 ·rw[rO];show U.deeps []<=8;rw[U.deeps];omega
 ·rw[D];simp
def wt5_k (u:U):wt5 u.k5=1+u.words.length / 50+u.head.length / 50+u.label.length / 50:=rfl
def wtL_all (u:U):wtL u.all5=wt5 u.k5+wtL (U.alls5 u.kids):=by rw[rS,gN]
def idsB (u:U):Bool:=decide u.ids.Nodup&&(!decide (zId∈u.ids)||decide (u.kind=0))
mutual
def Itm.big:Itm->Prop
 |⟨_,a,t,_,_,u,o,w,l,f,s,_,_,_,e,b⟩=>(a.length<1000000000000000000/\∀x∈a,x.label.length<1000000000000000000)/\(t.length<1000000000000000000/\∀x∈t,x.label.length<1000000000000000000)/\u.fit/\o.length<1000000000000000000/\w.length<1000000000000000000/\
  (l.length<1000000000000000000/\f.length<1000000000000000000/\s.event.length<1000000000000000000/\e.length<1000000000000000000)/\b.length<1000000000000000000/\Itm.bigs b
def Itm.bigs:List Itm->Prop
 |[]=>True
 |u::us=>Itm.big u/\Itm.bigs us
end
def tb:∀{us:List Itm},Itm.bigs us↔∀k∈us,k.big
 |[]=>by simp[Itm.bigs]
 |u::us=>by simp[Itm.bigs,tb (us:=us)]
def tU (x:Itm):x.big↔(x.at_.length<1000000000000000000/\∀y∈x.at_,y.label.length<1000000000000000000)/\(x.to_.length<1000000000000000000/\∀y∈x.to_,y.label.length<1000000000000000000)/\x.unit.fit/\x.old.length<1000000000000000000/\x.new.length<1000000000000000000/\
  (x.label.length<1000000000000000000/\x.for_.length<1000000000000000000/\x.start.event.length<1000000000000000000/\x.event.length<1000000000000000000)/\x.by_.length<1000000000000000000/\∀k∈x.by_,k.big:=by
 cases x
 rw[Itm.big,tb]
def big_fit:∀x:Itm,x.big->x.fit:=by
 refine Itm.ind λx ih h=>?_;obtain⟨⟨E,_⟩,⟨F,_⟩,c,d,e,_,f,g⟩:=(tU x).1 h;exact(sg x).2 ⟨E,F,c,d,e,f,λk D=>ih k D (g k D)⟩
def qC:∀(n:Nat) (a:List AV),Shp Tryz.prog reachBytes n 34 a->∃x:Itm,a=x.cs/\x.big:=by
 intro n
 induction n using Nat.strongRecOn with
 |ind n ih=>
  intro a h;obtain⟨m,rfl,g⟩:=cT Tryz.underlying34 h;clear h;simp only[toL,ShpF]at g;obtain⟨a1,b1,rfl,h1,a2,b2,rfl,h2,a3,b3,rfl,h3,a4,b4,rfl,h4,a5,b5,rfl,h5,a6,b6,rfl,h6,a7,b7,rfl,h7,a8,b8,rfl,h8,a9,b9,rfl,h9,ah,bh,rfl,D,al,bk,rfl,E,an,bm,rfl,F,aw,bn,rfl,I,bb,bo,rfl,J,bd,bs,rfl,M,be,bw,rfl,N,rfl⟩:=g;obtain⟨k,rfl⟩:=bO Tryz.underlying3 h1;obtain⟨l2,rfl,q2,t2⟩:=lA h2;obtain⟨l3,rfl,q3,t3⟩:=lA h3;obtain⟨i4,rfl⟩:=bO Tryz.underlying3 h4;obtain⟨i5,rfl⟩:=bO Tryz.underlying3 h5;obtain⟨u6,rfl,q6⟩:=np _ _ h6;obtain⟨l7,rfl,q7,_⟩:=ns h7;obtain⟨l8,rfl,q8,_⟩:=ns h8;obtain⟨s9,z9,rfl⟩:=fk Tryz.underlying9 h9;obtain⟨s10,aa,rfl⟩:=fk Tryz.underlying9 D;obtain⟨s11,rfl,ac⟩:=re E;obtain⟨O,rfl⟩:=bO Tryz.underlying3 F;obtain⟨T,rfl⟩:=bO Tryz.underlying3 I;obtain⟨V,rfl⟩:=bO Tryz.underlying3 J;obtain⟨s15,ad,rfl⟩:=fk Tryz.underlying9 M;obtain⟨X,rfl,Z,Y⟩:=fN (f:=Itm.cs) (q:=Itm.big) (sz:=25) Tryz.underlying32 (by kernel_rfl) (λm' hm r hr=>ih m' (by omega) r hr) N;refine⟨⟨k,l2,l3,i4,i5,u6,l7,l8,s9,s10,s11,O,T,V,s15,X⟩,?_,(tU _).2 ⟨⟨q2,t2⟩,⟨q3,t3⟩,q6,q7,q8,⟨dW z9,dW aa,ac,dW ad⟩,dW Z,Y⟩⟩;rw[dT,b0];rfl
def open_deed {n:Nat} {a:List AV} (h:Shp Tryz.prog reachBytes n 36 a):∃d:Dd,a=d.cs/\d.it.big:=by
 obtain⟨m,rfl,g⟩:=cT Tryz.underlying36 h;clear h;simp only[toL,ShpF]at g;obtain⟨T,Z,rfl,D,V,b2,rfl,E,X,b3,rfl,F,Y,b4,rfl,I,rfl⟩:=g;obtain⟨M,rfl⟩:=bO Tryz.underlying3 D;obtain⟨N,rfl⟩:=bO Tryz.underlying3 E;obtain⟨O,rfl⟩:=bO Tryz.underlying3 F;obtain⟨x,rfl,J⟩:=qC _ _ I;exact⟨⟨M,N,O,x⟩,by simp[Dd.cs],J⟩
end Go.Av
