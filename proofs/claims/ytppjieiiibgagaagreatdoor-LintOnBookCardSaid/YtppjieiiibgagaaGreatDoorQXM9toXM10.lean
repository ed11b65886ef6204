/-
  ENACT, M9: an insertion by the reference.
-/
import Derived.Test.YtppjieiiibgagaaGreatDoorQXOpItoXM8
import Derived.Test.YtppjieiiibgagaaGreatDoorQXM5toXGo
import Derived.Test.YtppjieiiibgagaaGreatDoorQXL19toXL25
import Derived.Test.YtppjieiiibgagaaGreatDoorQXM1toXL49
set_option linter.all false
namespace Go.Av
open Go Go.RowKit Go.Proofs List
def Dd.cs (d:Dd):List AV:=.i d.act:: .i d.item:: .i d.day::d.it.cs
def W_tail5 {G:Glob} {P:Program} {a b c d e X:SCode} {Q:Exit->Env->Store->Prop} {D:Tag Q} {env:Env} {σ:Store}
  (h:∀Y,Y=X->W G P (.seq a (.seq b (.seq c (.seq d (.seq e Y))))) Q env σ ⟨⟩):W G P (.seq a (.seq b (.seq c (.seq d (.seq e X))))) Q env σ D:=h X rfl
def tailR (u:U) (d:Dd) (P:U) (dp k:Nat):U×Int:=
 if bR P P.kids (bi d.it.unit d.act d.item)≠0 then (u,bR P P.kids (bi d.it.unit d.act d.item))
 else if 64<=P.kids.length\/8<(dp:Int)+1+(bi d.it.unit d.act d.item).dep\/1024<u.cnt+(bi d.it.unit d.act d.item).cnt then (u,6)
 else if (bi d.it.unit d.act d.item).ids.any (λy=>decide (y∈u.ids))then (u,5)
 else (U.put {P with kids:=aX P.kids k (bi d.it.unit d.act d.item)} u,0)
def insR_tail (u:U) (i:Idd) (d:Dd):insR u i d=if (d.it.wh=2\/d.it.wh=3)/\i=u.id then (u,9)else tailR u d (bX u i d.it.wh).1 (bX u i d.it.wh).2.1 (bX u i d.it.wh).2.2:=rfl
def aY (q:U×Int):AV:=.tup [.agg q.1.cs,.i q.2]
structure Unit0 (d:Dd):Prop where
 nodes:∀y∈d.it.unit.flat,nodeOk y=true
 cnt:d.it.unit.flat.length<=1024
def wt_le {u:U} (h:∀y∈u.flat,nodeOk y=true):u.wt<=u.flat.length*512:=by
 unfold U.wt
 have:∀l:List U,(∀y∈l,nodeOk y=true)->(l.map λy=>y.head.length+y.words.length).sum<=l.length*512:=by
  intro l
  induction l with
  |nil=>intro _;simp
  |cons x l ih=>
   intro h;have F:=ih λy E=>h y (by simp[E]);have D:=dQ (h x (by simp));have I:=D.head.1;have J:=D.words.1;rw[map_cons,sum_cons,length_cons];omega
 exact this u.flat h
def mO (j:Idd) (u:U):(j∈u.ids->∃n:Nat,n<=u.flat.length/\fv j u= .tup [.agg (fnd j u).cs,.i n])/\(j∉u.ids->fv j u= .tup [.agg zU,.i (-1)]):=by
 constructor
 ·intro h;have F:=ct.2 h;have D:=eE j u;unfold fv
  cases E:U.way j u with
  |nil=>exact absurd E F
  |cons x l=>
   rw[E]at D;exact⟨l.length,by simp at D;omega,rfl⟩
 ·intro h;unfold fv;rw[(dW u).2 h]
section
variable (G:Glob)
set_option maxHeartbeats 2000000 in
def f80 (u:U) (hu:Good u) (i:Idd) (hi:i∈u.ids) (d:Dd) (h0:0<=d.it.wh) (h3:d.it.wh<=3) (hd:Unit0 d):Pure G Tryz.prog 80 [.agg u.cs,.agg i.cs,.agg d.cs] (aY (insR u i d)):=by
 have hs:=hu.short;have eb:=hu.cnt;have e5:=eI hd.nodes (by have:=hd.cnt;omega);have al:=f142 G d.it.unit d.act d.item e5 (by have h1:=wt_le hd.nodes;have h2:=hd.cnt;omega);obtain⟨s1,s2,s3,s4,s5⟩:=kf d.it.unit d.act d.item hd.nodes;rw[insR_tail];refine Pure.w c80 λR O=>?_;unfold s80 r80;refine W_tail5 λY hY=>?_;unfold aY at O;have tail:∀(P:U) (dp k T V:Nat),¬V=T->P.kids.length<=64->k<=P.kids.length->dp<=2000->(∀z σ,AVle z (aY (tailR u d P dp k))->RET z σ R)->
   W G Tryz.prog Y (retQ [(6,some (true,8)),(7,none)] R) [(3,.ref u.cs),(5,.ref d.cs),(6,.p T),(8,.p V),(9,.i dp),(10,.i k)] [(V,.cells 27 P.cs),(T,.cells 27 zU)] ⟨⟩:=by
  intro P dp k T V hb ea hk ef hT
  unfold aY tailR at hT
  obtain⟨x,hx⟩:∃x,bi d.it.unit d.act d.item=x:=⟨_,rfl⟩
  rw[hx]at hT al s1 s2 s3 s4 s5
  have ad:¬T=V:=λe=>hb e.symm
  have bs:x.Short:=eI s5 (by rw[s3];have:=hd.cnt;omega)
  have hN:=f143 G P.kind x.kind
  have d2:=f88 G P.kids x.kind x.label (by omega)
  have bx:=f144 G x bs.1
  have d1:=f145 G u hs.1
  have bw:=f145 G x bs.1
  have ch:=f146 G x bs.1
  have cm:=f147 G P.kids k x hk (by omega)
  have bd:=f85 G {P with kids:=aX P.kids k x} u hs.1
  have eg:=x.dep_ge
  have e9:=x.dep_cnt
  have d3:x.cnt=d.it.unit.flat.length:=by unfold U.cnt;rw[s3]
  have e8:(0:Int)<=x.cnt/\x.cnt<=1024:=by have:=hd.cnt;omega
  have e7:(0:Int)<=u.cnt/\u.cnt<=1024:=by unfold U.cnt;omega
  have w1:IntKind.i64.wrap ((dp:Int)+1)=(dp:Int)+1:=av (by omega) (by omega)
  have w2:IntKind.i64.wrap ((dp:Int)+1+x.dep)=(dp:Int)+1+x.dep:=av (by omega) (by omega)
  have w3:IntKind.i64.wrap (u.cnt+x.cnt)=u.cnt+x.cnt:=av (by omega) (by omega)
  have cp:=λy=>f82 G y u hs.1
  clear s1 s2 s4 d3
  rw[hH]at al
  rw[hH {P with kids:=aX P.kids k x}]at bd
  subst hY
  unfold Dd.cs
  rw[hH P]
  rw[hH x]at al bx bw ch cm
  (repeat' (first|(with_reducible (first|refine ae (λh=>?_) λh=>?_|refine af (λh=>?_) λh=>?_)<;>(try simp only[DZ]at h))|(with_reducible first|refine ab al ?_|refine ab hN ?_|refine ab d2 ?_|refine ab bx ?_|refine ab d1 ?_|refine ab bw ?_|refine ab ch ?_)|simp only[EV,seval,hb,ad,w1,w2,w3,D]|simp only[EV,seval,hb,ad,w1,w2,w3]|(with_reducible intro N F;(try(have E:=F;simp only[EVK]at E;(have D:=E))))|(with_reducible first|refine ag ?_ ?_|refine ai ?_)|fail))
  all_goals try(refine hT _ _ (Or.inl (Or.inl ?_));simp[bR, *];done)
  all_goals have cw:bR P P.kids x=0:=by simp[bR, *]
  all_goals try(
   refine hT _ _ (Or.inl (Or.inl ?_))
   rw[if_neg (by rw[cw];simp),if_pos (by exact .inl (by omega))]
   done)
  all_goals
   have e4:¬(64<=P.kids.length\/8<(dp:Int)+1+x.dep\/1024<u.cnt+x.cnt):=by omega
   rw[if_neg (by rw[cw];simp),if_neg e4]at hT
   have el:x.flat.length<=1024:=by rw[s3];exact hd.cnt
   refine ap x.flat (λi r (c:Unit)=>∀y∈x.flat.take i,y.id∉u.ids) (λi c=>[(3,.ref u.cs),(6,.p T),(8,.p V),(10,.i k),(11,.p N),(12,.lst 8 (x.flat.map U.cs)),(13,.i i)]) (λi c=>[(N,.cells 27 [.i x.id.act,.i x.id.item,.i x.id.n,.i x.kind,.str x.label,.lst 4 (x.head.map Wd.cs),.lst 4 (x.words.map Wd.cs),.lst 8 (x.kids.map U.cs)]),(V,.cells 27 [.i P.id.act,.i P.id.item,.i P.id.n,.i P.kind,.str P.label,.lst 4 (P.head.map Wd.cs),.lst 4 (P.words.map Wd.cs),.lst 8 (P.kids.map U.cs)]),(T,.cells 27 zU)]) () (by simp) (dT _ _) (by omega) (λi y r c an I J=>?_) (λc an hn=>?_)
   ·have hg:=cp y.id
    rcases Classical.em (y.id∈u.ids)with hm|hm
    ·obtain⟨n,ew,e⟩:=(mO y.id u).1 hm;rw[e]at hg;simp only[Idd.cs]at hg;have ac:(x.ids.any λy=>decide (y∈u.ids))=true:=any_eq_true.2 ⟨y.id,mem_map.2 ⟨y,I.mem,rfl⟩,decide_eq_true hm⟩;rw[if_pos ac]at hT;(repeat' (first|(with_reducible (refine ae (λh=>?_) λh=>?_)<;>(try simp only[DZ]at h))|(with_reducible refine ab hg ?_)|simp only[EV,seval,I.yes,I.le0,I.lt',I.row,J,I.get,hb,ad,D]|(with_reducible intro N F;(try(have E:=F;simp only[EVK]at E;(have D:=AI E D))))|(with_reducible first|refine ag ?_ ?_|refine ai ?_)|(exfalso;omega)|fail))
     all_goals exact hT _ _ (Or.inl (Or.inl rfl))
    ·have e:=(mO y.id u).2 hm;rw[e]at hg;simp only[Idd.cs]at hg;(repeat' (first|(with_reducible refine ab hg ?_)|simp only[EV,seval,I.yes,I.le0,I.lt',I.row,J,I.get,hb,ad,D]|(with_reducible intro N F;(try(have E:=F;simp only[EVK]at E;(have D:=AI E D))))|(with_reducible first|refine ag ?_ ?_|refine ai ?_)|fail))
     all_goals first
      |(exfalso;omega)
      |(refine ak I () ?_ (Weak.sub ((SubN.refl _).tail _))
        intro z hz
        rw[I.take,mem_append,mem_singleton]at hz
        rcases hz with hz|rfl
        ·exact an z hz
        ·exact hm)
   ·rw[take_length]at an
    have ac:¬(x.ids.any λy=>decide (y∈u.ids))=true:=by
     rw[any_eq_true];rintro⟨y,hy,e6⟩;obtain⟨z,hz,rfl⟩:=mem_map.1 hy;exact an z hz (by simpa using e6)
    rw[if_neg ac]at hT;simp only at bd;(repeat' (first|(with_reducible first|refine ab cm ?_|refine ab bd ?_)|simp only[EV,seval,hn,hb,ad,D]|fail))
    all_goals exact hT _ _ (Or.inl (Or.inl rfl))
 have hG:=f82 G i u hs.1;have ex:=eE i u;have d0:=eA hi
 have ds:fv i u= .tup [.agg (fnd i u).cs,.i (((U.way i u).length-1:Nat):Int)]:=by
  unfold fv
  cases J:U.way i u with
  |nil=>rw[J]at d0;simp at d0
  |cons x l=>simp
 rw[ds]at hG;have dl:=aU u hu.nd hi;have be:=cy (hu.node _ dl)
 have hh:d.it.wh=0\/d.it.wh=1\/d.it.wh=2\/d.it.wh=3:=by omega
 unfold Dd.cs at tail ⊢;obtain⟨P0,ah⟩:∃P0,fnd i u=P0:=⟨_,rfl⟩;obtain⟨n0,bk⟩:∃n0,(U.way i u).length-1=n0:=⟨_,rfl⟩;rw[ah,bk]at hG;rw[ah]at be
 have aw:n0<=2000:=by omega
 rw[hH P0]at hG;simp only[Idd.cs]at hG ⊢
 rcases hh with J|J|J|J
 ·have Z:bX u i d.it.wh=(P0,n0,0):=by unfold bX;rw[J];simp[ah,bk]
  rw[if_neg (by omega),Z]at O;simp only at O;have t:=λT V hb=>tail P0 n0 0 T V hb be (by omega) aw O;clear tail;rw[hH P0]at t;(repeat' (first|(with_reducible refine ab hG ?_)|simp only[EV,seval,J,D]|simp only[EV,seval,J]|(with_reducible intro N F;(try(have E:=F;simp only[EVK]at E;first|(have D:=AI E D)|(have D:=E))))|fail));have h:=t _ _ D.1;subst hY;(try simp only[EV,seval,D]);(try simp only[EV,seval,D]at h);exact h
 ·have Z:bX u i d.it.wh=(P0,n0,P0.kids.length):=by unfold bX;rw[J];simp[ah,bk]
  rw[if_neg (by omega),Z]at O;simp only at O;have t:=λT V hb=>tail P0 n0 P0.kids.length T V hb be (by omega) aw O;clear tail;rw[hH P0]at t;(repeat' (first|(with_reducible refine ab hG ?_)|simp only[EV,seval,J,D]|simp only[EV,seval,J]|(with_reducible intro N F;(try(have E:=F;simp only[EVK]at E;first|(have D:=AI E D)|(have D:=E))))|fail));have h:=t _ _ D.1;subst hY;(try simp only[EV,seval,D]);(try simp only[EV,seval,D]at h);exact h
 ·by_cases M:i=u.id
  ·rw[if_pos ⟨.inl J,M⟩]at O;simp only at O;clear tail;subst M;have e0:decide (u.id=u.id)=true:=decide_eq_true rfl;(repeat' (first|(with_reducible (refine ae (λh=>?_) λh=>?_)<;>(try simp only[DZ]at h))|(with_reducible refine ab hG ?_)|simp only[EV,seval,J,am,e0,D]|simp only[EV,seval,J,am,e0]|(with_reducible intro N F;(try(have E:=F;simp only[EVK]at E;first|(have D:=AI E D)|(have D:=E))))|fail))
   all_goals first|exact O _ _ (Or.inl (Or.inl rfl))|(exfalso;simp at h;done)
  ·obtain⟨p,dd,j,q1,q2,q3⟩:=br hu.nd hi (Ne.symm M);have X:=f83 G i u hs.1
   have bo:iZ i u= .tup [.agg p.cs,.i dd,.i j]:=by unfold iZ;rw[eU u hu.nd hi,q1]
   rw[bo,hH p]at X
   have bm:p∈u.flat:=by
    have:=aU u hu.nd q3.mem;rw[q3.fnd]at this;exact this
   have bn:=cy (hu.node _ bm);have dc:=(li (by rw[eU u hu.nd hi];exact q1)).1;obtain⟨aa,kk,bb,ss,e2,bh,e3⟩:=q3.split
   have e1:j<p.kids.length:=by rw[ss.eq,bh];simp
   have Z:bX u i d.it.wh=(p,dd,j+1):=by unfold bX;rw[J,q2];simp
   rw[if_neg λh=>M h.2,Z]at O;simp only at O;have t:=λT V hb=>tail p dd (j+1) T V hb bn (by omega) (by omega) O;clear tail;rw[hH p]at t;have e0:decide (i=u.id)=false:=decide_eq_false M
   have w1:IntKind.i64.wrap ((j:Int)+1)=((j+1:Nat):Int):=by rw[av (by omega) (by omega)];omega
   simp only[Idd.cs]at X hG;(repeat' (first|(with_reducible first|refine ab hG ?_|refine ab X ?_)|simp only[EV,seval,J,am,e0,w1,D]|simp only[EV,seval,J,am,e0,w1]|(with_reducible intro N F;(try(have E:=F;simp only[EVK]at E;first|(have D:=AI E D)|(have D:=E))))|fail));exact t _ _ D.1
 ·by_cases M:i=u.id
  ·rw[if_pos ⟨.inr J,M⟩]at O;simp only at O;clear tail;subst M;have e0:decide (u.id=u.id)=true:=decide_eq_true rfl;(repeat' (first|(with_reducible (refine ae (λh=>?_) λh=>?_)<;>(try simp only[DZ]at h))|(with_reducible refine ab hG ?_)|simp only[EV,seval,J,am,e0,D]|simp only[EV,seval,J,am,e0]|(with_reducible intro N F;(try(have E:=F;simp only[EVK]at E;first|(have D:=AI E D)|(have D:=E))))|fail))
   all_goals first|exact O _ _ (Or.inl (Or.inl rfl))|(exfalso;simp at h;done)
  ·obtain⟨p,dd,j,q1,q2,q3⟩:=br hu.nd hi (Ne.symm M);have X:=f83 G i u hs.1
   have bo:iZ i u= .tup [.agg p.cs,.i dd,.i j]:=by unfold iZ;rw[eU u hu.nd hi,q1]
   rw[bo,hH p]at X
   have bm:p∈u.flat:=by
    have:=aU u hu.nd q3.mem;rw[q3.fnd]at this;exact this
   have bn:=cy (hu.node _ bm);have dc:=(li (by rw[eU u hu.nd hi];exact q1)).1;obtain⟨aa,kk,bb,ss,e2,bh,e3⟩:=q3.split
   have e1:j<p.kids.length:=by rw[ss.eq,bh];simp
   have Z:bX u i d.it.wh=(p,dd,j):=by unfold bX;rw[J,q2];simp
   rw[if_neg λh=>M h.2,Z]at O;simp only at O;have t:=λT V hb=>tail p dd j T V hb bn (by omega) (by omega) O;clear tail;rw[hH p]at t;have e0:decide (i=u.id)=false:=decide_eq_false M;simp only[Idd.cs]at X hG;(repeat' (first|(with_reducible first|refine ab hG ?_|refine ab X ?_)|simp only[EV,seval,J,am,e0,D]|simp only[EV,seval,J,am,e0]|(with_reducible intro N F;(try(have E:=F;simp only[EVK]at E;first|(have D:=AI E D)|(have D:=E))))|fail));have h:=t _ _ D.1;subst hY;(try simp only[EV,seval,D]);(try simp only[EV,seval,D]at h);exact h
end
def wt5_k (u:U):wt5 u.k5=1+u.words.length / 50+u.head.length / 50+u.label.length / 50:=rfl
def wtL_all (u:U):wtL u.all5=wt5 u.k5+wtL (U.alls5 u.kids):=by rw[sg,gQ]
def idsB (u:U):Bool:=decide u.ids.Nodup&&(!decide (zId∈u.ids)||decide (u.kind=0))
mutual
def Itm.big:Itm->Prop
 |⟨_,a,t,_,_,u,o,w,l,f,s,_,_,_,e,b⟩=>(a.length<1000000000000000000/\∀x∈a,x.label.length<1000000000000000000)/\(t.length<1000000000000000000/\∀x∈t,x.label.length<1000000000000000000)/\u.fit/\o.length<1000000000000000000/\w.length<1000000000000000000/\
  (l.length<1000000000000000000/\f.length<1000000000000000000/\s.event.length<1000000000000000000/\e.length<1000000000000000000)/\b.length<1000000000000000000/\Itm.bigs b
def Itm.bigs:List Itm->Prop
 |[]=>True
 |u::us=>Itm.big u/\Itm.bigs us
end
def tz:∀{us:List Itm},Itm.bigs us↔∀k∈us,k.big
 |[]=>by simp[Itm.bigs]
 |u::us=>by simp[Itm.bigs,tz (us:=us)]
def ul (x:Itm):x.big↔(x.at_.length<1000000000000000000/\∀y∈x.at_,y.label.length<1000000000000000000)/\(x.to_.length<1000000000000000000/\∀y∈x.to_,y.label.length<1000000000000000000)/\x.unit.fit/\x.old.length<1000000000000000000/\x.new.length<1000000000000000000/\
  (x.label.length<1000000000000000000/\x.for_.length<1000000000000000000/\x.start.event.length<1000000000000000000/\x.event.length<1000000000000000000)/\x.by_.length<1000000000000000000/\∀k∈x.by_,k.big:=by
 cases x
 rw[Itm.big,tz]
def big_fit:∀x:Itm,x.big->x.fit:=by
 refine Itm.ind λx ih h=>?_;obtain⟨⟨E,_⟩,⟨F,_⟩,c,d,e,_,f,g⟩:=(ul x).1 h;exact(su x).2 ⟨E,F,c,d,e,f,λk D=>ih k D (g k D)⟩
def qI:∀(n:Nat) (a:List AV),Shp Tryz.prog reachBytes n 34 a->∃x:Itm,a=x.cs/\x.big:=by
 intro n
 induction n using Nat.strongRecOn with
 |ind n ih=>
  intro a h;obtain⟨m,rfl,g⟩:=dg Tryz.underlying34 h;clear h;simp only[toL,ShpF]at g;obtain⟨a1,b1,rfl,h1,a2,b2,rfl,h2,a3,b3,rfl,h3,a4,b4,rfl,h4,a5,b5,rfl,h5,a6,b6,rfl,h6,a7,b7,rfl,h7,a8,b8,rfl,h8,a9,b9,rfl,h9,ah,bh,rfl,D,al,bk,rfl,E,an,bm,rfl,F,aw,bn,rfl,I,bb,bo,rfl,J,bd,bs,rfl,M,be,bw,rfl,N,rfl⟩:=g;obtain⟨k,rfl⟩:=cf Tryz.underlying3 h1;obtain⟨l2,rfl,q2,t2⟩:=mB h2;obtain⟨l3,rfl,q3,t3⟩:=mB h3;obtain⟨i4,rfl⟩:=cf Tryz.underlying3 h4;obtain⟨i5,rfl⟩:=cf Tryz.underlying3 h5;obtain⟨u6,rfl,q6⟩:=nN _ _ h6;obtain⟨l7,rfl,q7,_⟩:=nF h7;obtain⟨l8,rfl,q8,_⟩:=nF h8;obtain⟨s9,z9,rfl⟩:=eV Tryz.underlying9 h9;obtain⟨s10,aa,rfl⟩:=eV Tryz.underlying9 D;obtain⟨s11,rfl,ac⟩:=lA E;obtain⟨O,rfl⟩:=cf Tryz.underlying3 F;obtain⟨T,rfl⟩:=cf Tryz.underlying3 I;obtain⟨V,rfl⟩:=cf Tryz.underlying3 J;obtain⟨s15,ad,rfl⟩:=eV Tryz.underlying9 M;obtain⟨X,rfl,Z,Y⟩:=gl (f:=Itm.cs) (q:=Itm.big) (sz:=25) Tryz.underlying32 (by kernel_rfl) (λm' hm r hr=>ih m' (by omega) r hr) N;refine⟨⟨k,l2,l3,i4,i5,u6,l7,l8,s9,s10,s11,O,T,V,s15,X⟩,?_,(ul _).2 ⟨⟨q2,t2⟩,⟨q3,t3⟩,q6,q7,q8,⟨ek z9,ek aa,ac,ek ad⟩,ek Z,Y⟩⟩;rw[eH,hH];rfl
def bytesItem:Tryz.prog.bytesOf 34=368:=by kernel_rfl
def open_actB {n:Nat} {a:List AV} (h:Shp Tryz.prog reachBytes n 49 a):∃x:Ac,a=x.cs/\x.items.length*368<=140737488351232/\∀y∈x.items,y.big:=by
 obtain⟨m,rfl,g⟩:=dg Tryz.underlying49 h;clear h;simp only[toL,ShpF]at g;obtain⟨N,Y,rfl,D,O,Z,rfl,E,T,b3,rfl,F,V,b4,rfl,I,X,b5,rfl,J,rfl⟩:=g;obtain⟨k,rfl⟩:=cf Tryz.underlying3 D;obtain⟨s,_,rfl⟩:=eV Tryz.underlying9 E;obtain⟨d,rfl⟩:=cf Tryz.underlying3 F;obtain⟨t,rfl,_⟩:=lA I;obtain⟨l,rfl,_,q,p⟩:=lr (f:=Itm.cs) (q:=Itm.big) (sz:=25) Tryz.underlying32 (by kernel_rfl) (λm' hm r M=>qI m' r M) J;rw[bytesItem]at q;exact⟨⟨k,s,d,t,l⟩,rfl,by unfold reachBytes at q;exact q,p⟩
def pW {W:List (List UInt8)} {k:Nat} {y x:List UInt8} {r:List (List UInt8)} (D:W[k]? =some y):(decide ((W.drop k).take (x::r).length=x::r))=(decide (y=x)&&decide ((W.drop (k+1)).take r.length=r)):=by
 have E:k<W.length:=by
  rw[List.getElem?_eq_some_iff]at D;exact D.1
 have e:W.drop k=y::W.drop (k+1):=by
  rw[drop_eq_getElem_cons E];rw[getElem?_eq_getElem E]at D
  injection D with D
  rw[D]
 rw[e,length_cons,take_succ_cons];rw[Bool.eq_iff_iff];simp
section
variable (G:Glob)
def f263 (w:List Wd) (k:Nat) (row:List (List UInt8)) (hw:w.length<1000000) (hk:k<=1000000) (hr:row.length<1000000) (aa:1<=row.length):Pure G Tryz.prog 263 [.lst 4 (w.map Wd.cs),.i k,.lst 1 (row.map srow)] (.bool (decide (((w.map Wd.text).drop k).take row.length=row))):=by
 have w0:IntKind.i64.wrap ((k:Int)+(row.length:Int))=(k:Int)+row.length:=av (by omega) (by omega);refine Pure.w c263 λR F=>?_;unfold s263 r263;by_cases Z:w.length<k+row.length
 ·have I:decide ((w.length:Int)<(k:Int)+row.length)=true:=decide_eq_true (by omega)
  have T:decide (((w.map Wd.text).drop k).take row.length=row)=false:=decide_eq_false λe=>by
   have:=congrArg List.length e;rw[length_take,length_drop,length_map]at this;omega
  rw[T]at F;(repeat' (simp only[EV,seval,w0,I]));exact RET.eq F rfl
 ·have I:decide ((w.length:Int)<(k:Int)+row.length)=false:=decide_eq_false (by omega);(repeat' (simp only[EV,seval,w0,I]));refine ap row (λi r (c:Unit)=>decide (((w.map Wd.text).drop k).take row.length=row)=decide (((w.map Wd.text).drop (k+i)).take r.length=r)) (λi c=>[(0,.lst 4 (w.map Wd.cs)),(1,.i k),(2,.lst 1 (row.map srow)),(7,.i i)]) (λ_ _=>[]) () rfl (dT _ _) (by omega) (λi x r c D E N=>?_) (λc D hn=>?_)
  ·have hi:=E.lt
   have M:k+i<w.length:=by omega
   have w1:IntKind.i64.wrap ((k:Int)+(i:Int))=((k+i:Nat):Int):=by rw[av (by omega) (by omega)];omega
   obtain⟨y,O⟩:∃y,w[k+i]? =some y:=⟨w[k+i],getElem?_eq_getElem M⟩
   have Y:(w.map Wd.cs).getD (k+i) []=y.cs:=by simp only[List.getD,getElem?_map,O,Option.map_some,Option.getD_some]
   have X:((k+i:Nat):Int)<(w.length:Int):=by omega
   have J:(0:Int)<=((k+i:Nat):Int):=by omega
   rw[pW (y:=y.text) (by rw[getElem?_map,O];rfl)]at D;(repeat' (first|(with_reducible (refine ae (λh=>?_) λh=>?_)<;>(try simp only[DZ]at h))|simp only[EV,seval,E.yes,E.le0,E.lt',E.row,N,E.get,w1,Y,X,J]|fail))
   ·rw[decide_eq_false (p:=y.text=x) h,Bool.false_and]at D;exact RET.eq F (by rw[D])
   ·have V:y.text=x:=Classical.byContradiction h;rw[decide_eq_true V,Bool.true_and,Nat.add_assoc]at D;exact ak E () D (dT _ _)
  ·(repeat' (simp only[EV,seval,hn]));exact RET.eq F (by rw[D];simp)
def f149 (w:List Wd) (row:List (List UInt8)) (hw:w.length<1000000) (hr:row.length<1000000) (T:row≠[]):Pure G Tryz.prog 149 [.lst 4 (w.map Wd.cs),.lst 1 (row.map srow)] (.lst 1 ((occs w row).map λn:Nat=>[AV.int .i64 (n:Int)])):=by
 have N:1<=row.length:=by cases row<;>simp_all
 refine Pure.w c149 λR hR=>?_;unfold s149 r149;(repeat' (first|simp only[EV,seval]|(with_reducible intro I D;(try(have E:=D;simp only[EVK]at E;(have O:=E))))|(refine⟨[],rfl,(by simp),rfl,?_⟩)|fail));refine gS (ι:=Nat×List Nat×Option Nat) (λp=>p.1<=w.length+row.length/\p.2.1.length<=p.1/\occs w row=p.2.1++occL row 0 p.1 ((w.map Wd.text).drop p.1)) (λp=>w.length+row.length+1-p.1) (λp=>[(0,.lst 4 (w.map Wd.cs)),(1,.lst 1 (row.map srow)),(5,.own p.2.2 3 1 (p.2.1.map λn:Nat=>[AV.int .i64 (n:Int)])),(6,.i p.1)]) (λp=>tokS p.2.2 3 (p.2.1.length*1)) (0,[],some I) ⟨by omega,by simp,by simp[occs]⟩ (dT _ _) ?_;rintro⟨i,l,c⟩ ⟨Z,h2,F⟩;simp only at Z h2 F ⊢;by_cases hi:i<w.length
 ·have J:decide ((i:Int)<(w.length:Int))=true:=decide_eq_true (by omega);have M:=f263 G w i row hw (by omega) hr N;have V:IntKind.i64.wrap ((i:Int)+1)=((i+1:Nat):Int):=fF (by omega)
  have w2:IntKind.i64.wrap ((i:Int)+(row.length:Int))=((i+row.length:Nat):Int):=by rw[av (by omega) (by omega)];omega
  rcases Classical.em (((w.map Wd.text).drop i).take row.length=row)with hm|hm
  ·rw[decide_eq_true hm]at M;rw[pi T hm,drop_drop]at F;(repeat' (first|(with_reducible refine ab M ?_)|simp only[EV,seval,J,V,w2]|(with_reducible intro I D;(try(have E:=D;simp only[EVK]at E;(have O:=E))))|(refine⟨[[AV.int .i64 (i:Int)]],rfl,(by simp),(by simp),?_⟩)|(refine cx (by((simp only[length_map]<;>exact bp (by assumption)))) rfl rfl (by simp<;>omega) (λY=>?_))|fail));refine⟨(i+row.length,l++[i],Y),⟨by simp only;omega,by simp only[length_append,length_cons,length_nil];omega,by simp only[append_assoc,cons_append,nil_append];exact F⟩,by simp only;omega,?_⟩;simp only[map_append,map_cons,map_nil,length_append,length_map,length_cons,length_nil];exact dT _ _
  ·rw[decide_eq_false hm]at M;rw[nt hm,drop_drop]at F;(repeat' (first|(with_reducible refine ab M ?_)|simp only[EV,seval,J,V,w2]|fail));exact⟨(i+1,l,c),⟨by simp only;omega,by simp only;omega,F⟩,by simp only;omega,dT _ _⟩
 ·have J:decide ((i:Int)<(w.length:Int))=false:=decide_eq_false (by omega);have X:(w.map Wd.text).drop i=[]:=drop_eq_nil_of_le (by simp;omega);rw[X,occL,append_nil]at F;(repeat' (simp only[EV,seval,J]));exact hR _ _ (Or.inl (Or.inr ⟨rfl,by rw[F]⟩))
end
end Go.Av
