/-
  ENACT, M35: a unit moved, by the document.
-/
import Derived.Test.YtppjieiiibgagaaGreatDoorQXM9toXM10
import Derived.Test.YtppjieiiibgagaaGreatDoorQXE1toXE5
import Derived.Test.YtppjieiiibgagaaGreatDoorQXM20toXM30
import Derived.Test.YtppjieiiibgagaaGreatDoorQXM31toXE17
import Derived.Test.YtppjieiiibgagaaGreatDoorQXQ1toXAv32
import Derived.Test.YtppjieiiibgagaaGreatDoorQXM5toXGo
set_option linter.all false
namespace Go.Av
open Go Go.RowKit Go.Proofs List
def mvR (u:U) (i t:Idd) (d:Dd) (p:U) (dp:Nat):U×Int:=
 if bR p (cN p (parR i u).1 (parR i u).2.2) (fnd i u)≠0 then (u,bR p (cN p (parR i u).1 (parR i u).2.2) (fnd i u))
 else if 64<=(cN p (parR i u).1 (parR i u).2.2).length\/8<dp+1+(fnd i u).dep then (u,6)
 else if t=i then (u,0)
 else (U.put {fnd p.id (U.put {(parR i u).1 with kids:=aN (parR i u).1.kids (parR i u).2.2} u)with kids:=aX (fnd p.id (U.put {(parR i u).1 with kids:=aN (parR i u).1.kids (parR i u).2.2} u)).kids (atR (fnd p.id (U.put {(parR i u).1 with kids:=aN (parR i u).1.kids (parR i u).2.2} u)).kids t d.it.wh) (fnd i u)} (U.put {(parR i u).1 with kids:=aN (parR i u).1.kids (parR i u).2.2} u),0)
def movR_eq (u:U) (i t:Idd) (d:Dd):movR u i t d=if i=u.id\/besides d.it.wh=true/\t=u.id\/1<(U.way t (fnd i u)).length\/(U.way t (fnd i u)).length=1/\besides d.it.wh=false then (u,9)
  else mvR u i t d (if besides d.it.wh then (parR t u).1 else fnd t u) (if besides d.it.wh then (parR t u).2.1 else (U.way t u).length-1):=rfl
def W_tail9 {G:Glob} {P:Program} {a b c d e f g h k X:SCode} {Q:Exit->Env->Store->Prop} {E:Tag Q} {env:Env} {σ:Store}
  (D:∀Y,Y=X->W G P (.seq a (.seq b (.seq c (.seq d (.seq e (.seq f (.seq g (.seq h (.seq k Y))))))))) Q env σ ⟨⟩):W G P (.seq a (.seq b (.seq c (.seq d (.seq e (.seq f (.seq g (.seq h (.seq k X))))))))) Q env σ E:=D X rfl
def nodup6 {a b c d e f:Nat} {T:Prop} (h:(¬a=b/\¬a=c/\¬a=d/\¬a=e/\¬a=f)/\(¬b=c/\¬b=d/\¬b=e/\¬b=f)/\(¬c=d/\¬c=e/\¬c=f)/\(¬d=e/\¬d=f)/\¬e=f/\T):[a,b,c,d,e,f].Nodup:=by
 obtain⟨⟨N,O,V,X,Y⟩,⟨Z,o7,o8,o9⟩,⟨D,E,F⟩,⟨I,J⟩,M,_⟩:=h;simp[*]
section
variable (G:Glob)
set_option maxHeartbeats 8000000 in
def f81 (u:U) (hu:Good u) (i:Idd) (hi:i∈u.ids) (d:Dd) (h0:0<=d.it.wh) (h3:d.it.wh<=3) (i4:d.it.to_.length<1000000) (i5:∀s∈d.it.to_,s.label.length<1000000000000000000):
  Pure G Tryz.prog 81 [.agg u.cs,.agg i.cs,.agg d.cs] (aY (if (one u d.it.to_).2≠0 then (u,(one u d.it.to_).2)else movR u i (one u d.it.to_).1 d)):=by
 have bk:=hu.short.1
 have hO:=f32 G u d.it.to_ bk hu.cnt i4 i5
 unfold jV at hO
 have gn:=cB (u:=u) (p:=d.it.to_)
 have ad:=f82 G i u bk
 have fl:=(mO i u).1 hi
 obtain⟨ni,k6,fl⟩:=fl
 rw[fl]at ad
 obtain⟨⟨t,e⟩,i9⟩:∃z,one u d.it.to_=z:=⟨_,rfl⟩
 rw[i9]at hO gn ⊢
 simp only at hO gn ⊢
 have cm:=hH u
 rcases Classical.em (e=0)with he|he
 case inr=>
  rw[if_pos he];unfold Dd.cs aY;rw[eH];refine Pure.w c81 λR hR=>?_;unfold s81 r81;have e1:decide (e≠0)=true:=decide_eq_true he;(repeat' (first|(with_reducible refine ab hO ?_)|simp only[EV,seval,e1,D]|simp only[EV,seval,e1]|(with_reducible intro dc J;(try(have E:=J;simp only[EVK]at E;first|(have D:=AI E D)|(have D:=E))))|fail))
  all_goals exact RQ hR
 subst he
 rw[if_neg (by simp),movR_eq]
 have ht:=gn rfl
 obtain⟨X,hX⟩:∃X,fnd i u=X:=⟨_,rfl⟩
 have el:X.Tame:=by rw[←hX];exact(hu.short.node (aU u hu.nd hi)).1
 have T:=f82 G t X el
 rw[hX]at ad ⊢
 unfold fv at T
 have ix:=eE t X
 obtain⟨Q,hQ⟩:∃Q,mvR u i t d (if besides d.it.wh then (parR t u).1 else fnd t u) (if besides d.it.wh then (parR t u).2.1 else (U.way t u).length-1)=Q:=⟨_,rfl⟩
 rw[hQ]
 have hb:besides d.it.wh=(decide (d.it.wh=2)||decide (d.it.wh=3)):=by unfold besides;rw[Bool.decide_or]
 obtain⟨bb,e5⟩:∃bb,besides d.it.wh=bb:=⟨_,rfl⟩
 rw[e5]at hb ⊢
 unfold Dd.cs aY
 rw[eH]
 rw[hH X]at ad T
 simp only[Idd.cs]at ad T ⊢
 rw[cm]at hO ad ⊢
 refine Pure.w c81 λR hR=>?_
 unfold s81 r81
 refine W_tail9 (λY hY=>?_)
 have tail:∀(P:U) (dp:Nat) (b3 b6 b8 aa an ac:Nat) (Z:List AV),[ac,an,aa,b8,b6,b3].Nodup->i≠u.id->MvOk u i t d.it.wh P dp->(∀z σ,AVle z (aY (mvR u i t d P dp))->RET z σ R)->
   W G Tryz.prog Y (retQ [(6,some (true,8)),(7,none)] R) [(3,.p b3),(4,.ref i.cs),(5,.ref d.cs),(6,.p b6),(8,.p b8),(10,.bool bb),(11,.p aa),(15,.p ac),(16,.i dp)]
    [(ac,.cells 27 P.cs),(an,.cells 27 Z),(aa,.cells 27 X.cs),(b8,.cells 23 t.cs),(b6,.cells 27 zU),(b3,.cells 27 u.cs)] ⟨⟩:=by
  intro P dp b3 b6 b8 aa an ac Z fx bh O N
  obtain⟨old,dO,j,w1,w2,bd⟩:=br hu.nd hi (Ne.symm bh)
  obtain⟨hj,hp,_⟩:=eJ hu i _ w1
  simp only at hj hp
  have hP:=f83 G i u bk
  unfold iZ at hP
  rw[eU u hu.nd hi,w1]at hP
  have hN:=f143 G P.kind X.kind
  have ea:=f144 G X el
  unfold mvR at N
  rw[w2,hX]at N
  simp only at N hP
  rw[nodup_cons]at fx
  simp only[mem_cons,not_mem_nil,or_false,not_or,nodup_cons,nodup_nil,and_true,not_false_eq_true]at fx
  obtain⟨⟨n1,n2,n3,n4,n5⟩,⟨n6,n7,n8,n9⟩,⟨cp,cw,d0⟩,⟨d1,d2⟩,d3⟩:=fx
  have hs:cN P old j=if old.id=P.id then aN P.kids j else P.kids:=rfl
  clear hO ad T hR hQ
  rw[hH P,hH X,hH u]
  unfold Dd.cs
  rw[eH]
  simp only[Idd.cs,zU]at hP ⊢
  rw[hH old,hH u]at hP
  rw[hH X]at ea
  subst hY
  cases e7:nests P.kind X.kind with
  |false=>
   rw[e7]at hN
   have g6:bR P (cN P old j) X=9:=by unfold bR;rw[e7,if_pos rfl]
   rw[g6,if_pos (by decide)]at N;unfold aY at N;simp only at N;rw[hH u]at N;(repeat' (first|(with_reducible refine ab hN ?_)|simp only[EV,seval,n1,n2,n3,n4,n5,n6,n7,n8,n9,cp,cw,d0,d1,d2,d3]|fail))
   all_goals exact N _ _ (.inl (.inl rfl))
  |true=>
   rw[e7]at hN;have k0:=X.dep_ge
   have jb:X.dep<1000000:=by
    have h1:=X.dep_cnt;have h2:=el.2;unfold U.cnt at h1;omega
   have k3:=O.dp;have v1:IntKind.i64.wrap ((dp:Int)+1)=(dp:Int)+1:=av (by omega) (by omega);have v2:IntKind.i64.wrap ((dp:Int)+1+X.dep)=(dp:Int)+1+X.dep:=av (by omega) (by omega);have i3:=O.kids;have go:=f84 G old.kids j hj (by omega)
   have be:U.put {old with kids:=aN old.kids j} u=without i u:=by
    have:=fG u hu.nd bd.mem λl=>aN l j;rw[bd.fnd]at this;rw[this];unfold without;rw[w1]
   rw[be]at N;obtain⟨l,hl⟩:∃l,cN P old j=l:=⟨_,rfl⟩
   have k4:l.length<=64:=by
    rw[←hl];unfold cN;split
    ·next ho=>
     have e:P=old:=by rw[←O.here,←ho,bd.fnd]
     rw[e,iI hj];omega
    ·exact i3
   have g6:bR P l X=if cU l X.kind X.label then 10 else 0:=by unfold bR;rw[e7,if_neg (by decide)]
   rw[hl,g6]at N;have gs:=f88 G l X.kind X.label (by omega)
   obtain⟨b1,e1,M⟩:∃b1,decide (old.id=P.id)=b1/\(b1=true/\P=old/\l=aN old.kids j\/b1=false/\l=P.kids):=by
    rcases Classical.em (old.id=P.id)with ho|ho
    ·exact⟨true,decide_eq_true ho,.inl ⟨rfl,by rw[←O.here,←ho,bd.fnd],by rw[←hl];unfold cN;rw[if_pos ho,O.here.symm,←ho,bd.fnd]⟩⟩
    ·exact⟨false,decide_eq_false ho,.inr ⟨rfl,by rw[←hl];unfold cN;rw[if_neg ho]⟩⟩
   have bw:cU l X.kind X.label=true->∀z σ,AVle z (aY (u,10))->RET z σ R:=λh=>by
    rw[h,if_pos rfl,if_pos (by decide)]at N;exact N
   have bx:cU l X.kind X.label=false->64<=l.length\/8<(dp:Int)+1+X.dep->∀z σ,AVle z (aY (u,6))->RET z σ R:=λh h'=>by
    simp only[h,Bool.false_eq_true,if_false,ne_eq,not_true_eq_false]at N;rw[if_pos h']at N;exact N
   have ch:cU l X.kind X.label=false->¬(64<=l.length\/8<(dp:Int)+1+X.dep)->t=i->∀z σ,AVle z (aY (u,0))->RET z σ R:=λh h' h2=>by
    simp only[h,Bool.false_eq_true,if_false,ne_eq,not_true_eq_false]at N;rw[if_neg h',if_pos h2]at N;exact N
   have ah:cU l X.kind X.label=false->¬(64<=l.length\/8<(dp:Int)+1+X.dep)->t≠i->∀z σ,AVle z (aY (U.put {fnd P.id (without i u)with kids:=aX (fnd P.id (without i u)).kids (atR (fnd P.id (without i u)).kids t d.it.wh) X} (without i u),0))->RET z σ R:=λh h' h2=>by
    simp only[h,Bool.false_eq_true,if_false,ne_eq,not_true_eq_false]at N;rw[if_neg h',if_neg h2]at N;exact N
   clear N;unfold aY at bw bx ch ah;simp only at bw bx ch ah;rw[hH u]at bw bx ch;have aw:(true&&(true&&(true&&true)))=true:=rfl
   rcases Classical.em (t=i)with V|V
   case inl=>
    subst V;have e0:decide (t=t)=true:=decide_eq_true rfl;clear hl hs be O bd
    rcases M with⟨rfl,rfl,rfl⟩|⟨rfl,rfl⟩
    all_goals(repeat' (first|(with_reducible (first|refine ae (λh=>?_) λh=>?_|refine af (λh=>?_) λh=>?_)<;>(try simp only[DZ]at h))|(with_reducible first|refine ab hN ?_|refine ab hP ?_|refine ab go ?_|refine ab gs ?_|refine ab ea ?_)|simp only[EV,seval,am,e0,e1,aw,v1,v2,n1,n2,n3,n4,n5,n6,n7,n8,n9,cp,cw,d0,d1,d2,d3,D]|simp only[EV,seval,am,e0,e1,aw,v1,v2,n1,n2,n3,n4,n5,n6,n7,n8,n9,cp,cw,d0,d1,d2,d3]|(with_reducible intro dc J;(try(have E:=J;simp only[EVK]at E;(have D:=E))))|fail))
    all_goals first|exact bw (by assumption) _ _ (.inl (.inl rfl))|exact bx (by assumption) (by omega) _ _ (.inl (.inl rfl))|exact ch (by assumption) (by omega) rfl _ _ (.inl (.inl rfl))
   ·have ah:=λa b=>ah a b V;obtain⟨ex,-,-,-⟩:=fy hu hi (Ne.symm bh);have g5:=ex.short.1;have e8:=O.out V;have hf:=O.few V;have al:=O.pos V;have e0:decide (t=i)=false:=decide_eq_false V;have e4:=f85 G {old with kids:=aN old.kids j} u bk;rw[be,hH {old with kids:=aN old.kids j},hH u]at e4;obtain⟨u1,hv⟩:∃u1,without i u=u1:=⟨_,rfl⟩;rw[hv]at ah e4 g5 e8 hf al ex;obtain⟨p1,g0⟩:∃p1,fnd P.id u1=p1:=⟨_,rfl⟩;have eb:=f82 G P.id u1 g5;obtain⟨m0,_,i2⟩:=(mO P.id u1).1 e8;rw[i2,g0,hH p1]at eb;rw[g0]at ah hf al;have e9:=f148 G p1.kids t (by omega);have ds:=f85 G {p1 with kids:=aX p1.kids (atR p1.kids t d.it.wh) X} u1 g5;rw[hH {p1 with kids:=aX p1.kids (atR p1.kids t d.it.wh) X}]at ds;simp only[Idd.cs]at e4 eb ds e9;have bn:=λk hk=>f147 G p1.kids k X hk (by omega);rw[hH X]at bn
    obtain⟨k,hk,e6⟩:∃k:Nat,atR p1.kids t d.it.wh=k/\k<=p1.kids.length/\(d.it.wh=0/\bb=false/\k=0\/d.it.wh=1/\bb=false/\k=p1.kids.length\/bb=true/\∃m:Nat,idxF (λk=>decide (k.id=t)) 0 p1.kids=m/\IntKind.i64.wrap ((m:Int)+1)=((m+1:Nat):Int)/\(d.it.wh=2/\k=m+1\/d.it.wh=3/\k=m)):=by
     have hh:d.it.wh=0\/d.it.wh=1\/d.it.wh=2\/d.it.wh=3:=by omega
     rcases hh with I|I|I|I
     ·exact⟨0,by unfold atR;rw[I];rfl,by omega,.inl ⟨I,by rw[hb,I];rfl,rfl⟩⟩
     ·exact⟨_,by unfold atR;rw[I];rfl,Nat.le_refl _,.inr (.inl ⟨I,by rw[hb,I];rfl,rfl⟩)⟩
     ·obtain⟨m,hm⟩:=al (by omega);have hq:=gq hm;exact⟨m+1,by unfold atR;rw[I,hm];rfl,hq,.inr (.inr ⟨by rw[hb,I];rfl,m,by rw[gG _ _ _ _ hm,Nat.zero_add],by rw[av (by omega) (by omega)];omega,.inl ⟨I,rfl⟩⟩)⟩
     ·obtain⟨m,hm⟩:=al (by omega);have hq:=gq hm;exact⟨m,by unfold atR;rw[I,hm];rfl,by omega,.inr (.inr ⟨by rw[hb,I];rfl,m,by rw[gG _ _ _ _ hm,Nat.zero_add],by rw[av (by omega) (by omega)];omega,.inr ⟨I,rfl⟩⟩)⟩
    rw[hk]at ah ds;have bn:=bn k e6.1;replace e6:=e6.2;clear ch bd ex g0 hv hl hs be O hk al hb
    rcases M with⟨rfl,rfl,rfl⟩|⟨rfl,rfl⟩
    all_goals rcases e6 with⟨I,rfl,rfl⟩|⟨I,rfl,rfl⟩|⟨rfl,m,hm,v3,⟨I,rfl⟩|⟨I,rfl⟩⟩
    all_goals try rw[hm]at e9
    all_goals try rw[show((0:Nat):Int)=0 from rfl]at bn
    all_goals first|(have v4:=v3)|(have v4:=I)
    all_goals(repeat' (first|(with_reducible (first|refine ae (λh=>?_) λh=>?_|refine af (λh=>?_) λh=>?_)<;>(try simp only[DZ]at h))|(with_reducible first|refine ab hN ?_|refine ab hP ?_|refine ab go ?_|refine ab gs ?_|refine ab ea ?_|refine ab e4 ?_|refine ab eb ?_|refine ab bn ?_|refine ab ds ?_|refine ab e9 ?_)|simp only[EV,seval,am,e0,e1,I,v4,aw,v1,v2,n1,n2,n3,n4,n5,n6,n7,n8,n9,cp,cw,d0,d1,d2,d3,D]|simp only[EV,seval,am,e0,e1,I,v4,aw,v1,v2,n1,n2,n3,n4,n5,n6,n7,n8,n9,cp,cw,d0,d1,d2,d3]|(with_reducible intro dc J;(try(have E:=J;simp only[EVK]at E;(have D:=E))))|fail))
    all_goals first|exact bw (by assumption) _ _ (.inl (.inl rfl))|exact bx (by assumption) (by omega) _ _ (.inl (.inl rfl))|exact ah (by assumption) (by omega) _ _ (.inl (.inl rfl))
 have ft:fv t X= .tup [.agg (if U.way t X=[]then zU else (fnd t X).cs),.i (((U.way t X).length:Int)-1)]:=by
  unfold fv
  rcases I:U.way t X with _|⟨x,l⟩
  ·rfl
  ·simp
 unfold fv at ft
 rw[ft]at T
 obtain⟨Z,hZ⟩:∃Z,(if U.way t X=[]then zU else (fnd t X).cs)=Z:=⟨_,rfl⟩
 have k2:Z.length=8:=by
  rw[←hZ];split
  ·rfl
  ·exact ra _
 rw[hZ]at T
 have i1:bb=true/\(d.it.wh=2\/d.it.wh=3)\/bb=false/\(d.it.wh=0\/d.it.wh=1):=by
  have hh:d.it.wh=0\/d.it.wh=1\/d.it.wh=2\/d.it.wh=3:=by omega
  rcases hh with h|h|h|h<;>rw[hb,h]<;>simp
 obtain⟨n,hn⟩:∃n,(U.way t X).length=n:=⟨_,rfl⟩
 rw[hn]at T ix
 rw[hn]at hR
 obtain⟨b2,e2,ha⟩:∃b2,decide (i=u.id)=b2/\(b2=true↔i=u.id):=⟨_,rfl,decide_eq_true_iff⟩
 obtain⟨b3,e3,ew⟩:∃b3,decide (t=u.id)=b3/\(b3=true↔t=u.id):=⟨_,rfl,decide_eq_true_iff⟩
 have bo:b2=true->∀z σ,AVle z (aY (u,9))->RET z σ R:=λh=>by rw[if_pos (.inl (ha.1 h))]at hR;exact hR
 have dd:bb=true->b3=true->∀z σ,AVle z (aY (u,9))->RET z σ R:=λh h'=>by rw[if_pos (.inr (.inl ⟨h,ew.1 h'⟩))]at hR;exact hR
 have bs:1<n->∀z σ,AVle z (aY (u,9))->RET z σ R:=λh=>by rw[if_pos (.inr (.inr (.inl h)))]at hR;exact hR
 have dl:n=1->bb=false->∀z σ,AVle z (aY (u,9))->RET z σ R:=λh h'=>by rw[if_pos (.inr (.inr (.inr ⟨h,h'⟩)))]at hR;exact hR
 have M:b2=false->(bb=true->b3=false)->n<=1->(n=1->bb=true)->i≠u.id/\MvOk u i t d.it.wh (if bb then (parR t u).1 else fnd t u) (if bb then (parR t u).2.1 else (U.way t u).length-1)/\∀z σ,AVle z (aY (mvR u i t d (if bb then (parR t u).1 else fnd t u) (if bb then (parR t u).2.1 else (U.way t u).length-1)))->RET z σ R:=by
  intro g1 g2 g3 g4
  have bh:i≠u.id:=λe=>by rw[ha.2 e]at g1;cases g1
  have aw:¬(bb=true/\t=u.id):=λe=>by have:=ew.2 e.2;rw[g2 e.1]at this;cases this
  have i0:X.ids.Nodup:=by rw[←hX];exact fnd_nd u hu.nd hi
  have hx:=way_two (t:=t) X i0;rw[hn]at hx;refine⟨bh,?_,?_⟩
  ·obtain⟨P,dp,k,g⟩:=jE hu.nd ht h0 h3 (by rw[e5];exact aw);have hr:=g.ref;rw[e5]at hr;rw[hr.1,hr.2];refine mv_ok hu hi bh g λV hm=>?_;rw[hX]at hm;have h1:(U.way t X)≠[]:=ct.2 hm;have h2:n≠0:=λe=>h1 (length_eq_zero_iff.1 (hn.trans e))
   have h3:n=1:=by omega
   have h4:=hx.2.1 h3;rw[←hX,(dH u hu.nd hi).1]at h4;exact V h4
  ·rw[if_neg (by rintro(h|h|h|h);exact bh h;exact aw h;omega;have:=g4 h.1;rw[h.2]at this;cases this),←hQ,e5]at hR;exact hR
 have bm:=f82 G t u bk
 have hg:fv t u= .tup [.agg (fnd t u).cs,.i (((U.way t u).length-1:Nat):Int)]:=by
  have hy:=eA ht;unfold fv
  rcases I:U.way t u with _|⟨x,l⟩
  ·rw[I]at hy;simp at hy
  ·simp
 rw[hg,cm]at bm
 have ef:b3=false->Pure G Tryz.prog 83 [.agg u.cs,.agg t.cs] (.tup [.agg (parR t u).1.cs,.i (parR t u).2.1,.i (parR t u).2.2]):=λh=>by
  obtain⟨p,d',j',q1,q2,q3⟩:=br hu.nd ht (λe=>by rw[ew.2 e.symm]at h;cases h);have eg:=f83 G t u bk;unfold iZ at eg;rw[eU u hu.nd ht,q1]at eg;rw[q2];exact eg
 obtain⟨F,hF⟩:∃F,fnd t u=F:=⟨_,rfl⟩
 obtain⟨dF,hc⟩:∃dF,(U.way t u).length-1=dF:=⟨_,rfl⟩
 obtain⟨P',gp⟩:∃P',(parR t u).1=P':=⟨_,rfl⟩
 obtain⟨dP,hd⟩:∃dP,(parR t u).2.1=dP:=⟨_,rfl⟩
 rw[hF,hH F,hc]at bm
 rw[gp,hd,cm,hH P']at ef
 rw[hF,hc,gp,hd]at M
 simp only[Idd.cs]at bm ef
 unfold aY at bo dd bs dl
 simp only at bo dd bs dl
 rw[cm]at bo dd bs dl
 clear hR ft hZ hX hQ hg cm
 rcases i1 with⟨rfl,I⟩|⟨rfl,I⟩
 ·simp only[if_true]at M
  have t1:=λg1 g2 g3 g4 b3 b6 b8 aa an ac Z hz=>tail P' dP b3 b6 b8 aa an ac Z hz (M g1 g2 g3 g4).1 (M g1 g2 g3 g4).2.1 (M g1 g2 g3 g4).2.2;clear tail M;unfold Dd.cs at t1;rw[hH P',hH X,hH u,eH]at t1;simp only[Idd.cs]at t1
  rcases I with I|I
  all_goals(repeat' (first|(with_reducible (refine af (λh=>?_) λh=>?_)<;>(try simp only[DZ]at h))|(with_reducible first|refine AI (by omega) ?_|refine ab hO ?_|refine ab ad ?_|refine ab T ?_|refine ab bm ?_|refine ab (ef (by assumption)) ?_)|simp only[EV,seval,I,am,e2,e3,D]|simp only[EV,seval,I,am,e2,e3]|(with_reducible intro dc J;(try(have E:=J;simp only[EVK]at E;first|(have D:=AI E D)|(have D:=E))))|fail))
  all_goals first|exact bo (by assumption) _ _ (.inl (.inl rfl))|exact dd rfl (by assumption) _ _ (.inl (.inl rfl))|exact bs (by omega) _ _ (.inl (.inl rfl))|skip
  all_goals
   rw[I]at t1
   exact t1 (by assumption) (λ_=>by assumption) (by omega) (λ_=>trivial) _ _ _ _ _ _ _ (nodup6 D)
 ·simp only[Bool.false_eq_true,if_false]at M
  have t1:=λg1 g2 g3 g4 b3 b6 b8 aa an ac Z hz=>tail F dF b3 b6 b8 aa an ac Z hz (M g1 g2 g3 g4).1 (M g1 g2 g3 g4).2.1 (M g1 g2 g3 g4).2.2;clear tail M;unfold Dd.cs at t1;rw[hH F,hH X,hH u,eH]at t1;simp only[Idd.cs]at t1;have w2:decide (d.it.wh=2)=false:=decide_eq_false (by omega);have w3:decide (d.it.wh=3)=false:=decide_eq_false (by omega);(repeat' (first|(with_reducible (refine af (λh=>?_) λh=>?_)<;>(try simp only[DZ]at h))|(with_reducible first|refine AI (by omega) ?_|refine ab hO ?_|refine ab ad ?_|refine ab T ?_|refine ab bm ?_)|simp only[EV,seval,w2,w3,am,e2,e3,D]|simp only[EV,seval,w2,w3,am,e2,e3]|(with_reducible intro dc J;(try(have E:=J;simp only[EVK]at E;first|(have D:=AI E D)|(have D:=E))))|fail))
  all_goals first|exact bo (by assumption) _ _ (.inl (.inl rfl))|exact bs (by omega) _ _ (.inl (.inl rfl))|exact dl (by omega) rfl _ _ (.inl (.inl rfl))|skip
  all_goals
   have h9:=λZ=>t1 (by assumption) (λh=>by cases h) (by omega) (λh=>by omega) _ _ _ _ _ _ Z (nodup6 D)
   subst hY
   (try simp only[EV,seval,D])
   have h9:=h9 (Z++List.drop Z.length [AV.int .i64 0,.i 0,.i 0,.i 0,.str [],.nil,.nil,.nil])
   (try simp only[EV,seval,D]at h9)
   exact h9
end
section
variable (G:Glob)
set_option maxHeartbeats 8000000 in
def f31 (u:U) (hu:Good u) (d:Dd) (hs:d.it.Shorts):Pure G Tryz.prog 31 [.agg u.cs,.agg d.cs] (aY (doR u d)):=by
 obtain⟨q1,_⟩:=(o5 d.it).1 hs;have ad:=hu.short.1;have hC:=f29 G d.it.kind;have V:=f30 G d.it hs;have hO:=f32 G u d.it.at_ ad hu.cnt q1.at_ q1.atl;unfold jV at hO;have aa:=hH u;have hid:=cB (u:=u) (p:=d.it.at_);obtain⟨R0,ac⟩:∃R0,doR u d=R0:=⟨_,rfl⟩;by_cases ah:chg d.it.kind=false\/d.it.may=false
 ·have e:R0=(u,1):=by rw[←ac];unfold doR;rw[if_pos ah]
  rw[ac,e];unfold Dd.cs aY;simp only;rw[eH]at V ⊢;rw[aa];refine Pure.w c31 λR N=>?_;unfold s31 r31;(repeat' (first|(with_reducible (first|refine ae (λh=>?_) λh=>?_|refine af (λh=>?_) λh=>?_)<;>(try simp only[DZ]at h))|(with_reducible first|refine ab hC ?_|refine ab V ?_)|simp only[EV,seval,E]|simp only[EV,seval]|(with_reducible intro Y I;(try(have D:=I;simp only[EVK]at D;(have E:=D))))|fail))
  all_goals first|exact RQ N|(exfalso;simp_all;done)
 rw[not_or,Bool.not_eq_false,Bool.not_eq_false]at ah;obtain⟨hc,hm⟩:=ah;rw[hc]at hC;rw[hm]at V;obtain⟨⟨i,e⟩,an⟩:∃z,one u d.it.at_=z:=⟨_,rfl⟩;rw[an]at hO hid;have J:=ac;unfold doR at J;rw[if_neg (by simp[hc,hm]),an]at J;simp only at hO hid J;have bd:∀a b:Int,decide (a=b)=true↔a=b:=λa b=>decide_eq_true_iff
 rcases Classical.em (e=0)with he|he
 case inr=>
  rw[if_pos he]at J;have Z:decide (e≠0)=true:=decide_eq_true he;rw[ac,←J];unfold Dd.cs aY;simp only;rw[eH]at V ⊢;rw[aa]at hO ⊢;refine Pure.w c31 λR N=>?_;unfold s31 r31;(repeat' (first|(with_reducible first|refine ab hC ?_|refine ab V ?_|refine ab hO ?_)|simp only[EV,seval,Z,E]|simp only[EV,seval,Z]|(with_reducible intro Y I;(try(have D:=I;simp only[EVK]at D;first|(have E:=AI D E)|(have E:=D))))|fail))
  all_goals exact RQ N
 subst he;have hi:=hid rfl;rw[if_neg (by simp)]at J
 have hk:d.it.kind=0\/d.it.kind=1\/d.it.kind=2\/d.it.kind=3\/d.it.kind=4\/d.it.kind=5\/d.it.kind=6:=by
  have:chg d.it.kind=true:=hc;unfold chg at this;simp at this;omega
 have Z:decide ((0:Int)≠0)=false:=decide_eq_false (by simp)
 rcases Classical.em (d.it.kind=0\/d.it.kind=6)with hk0|hk0
 ·obtain⟨w0,w3⟩:=eY hm hk0
  have M:∃fn,(d.it.kind=0/\fn=80\/d.it.kind=6/\fn=81)/\Pure G Tryz.prog fn [.agg u.cs,.agg i.cs,.agg d.cs] (aY R0):=by
   rcases hk0 with h|h
   ·rw[if_pos h]at J;rw[←J];exact⟨_,.inl ⟨h,rfl⟩,f80 G u hu i hi d w0 w3 ⟨mN hm h,may_cnt hm h⟩⟩
   ·rw[if_neg (by omega),if_pos h]at J;rw[←J];exact⟨_,.inr ⟨h,rfl⟩,f81 G u hu i hi d w0 w3 q1.to_ q1.tol⟩
  rw[ac];obtain⟨fn,hf,M⟩:=M;unfold Dd.cs aY at M ⊢;rw[eH]at V M ⊢;rw[aa]at hO M ⊢;simp only[Idd.cs]at M;refine Pure.w c31 λR N=>?_;unfold s31 r31
  rcases hf with⟨F,rfl⟩|⟨F,rfl⟩
  all_goals rw[F]at hC V M
  all_goals(repeat' (first|(with_reducible first|refine ab hC ?_|refine ab V ?_|refine ab hO ?_|refine ab M ?_)|simp only[EV,seval,Z,F,E]|simp only[EV,seval,Z,F]|(with_reducible intro Y I;(try(have D:=I;simp only[EVK]at D;first|(have E:=AI D E)|(have E:=D))))|fail))
  all_goals exact RQ N
 rw[if_neg λh=>hk0 (.inl h),if_neg λh=>hk0 (.inr h)]at J
 have F:d.it.kind=1\/d.it.kind=2\/d.it.kind=3\/d.it.kind=4\/d.it.kind=5:=by omega
 rcases Classical.em (i=u.id)with hiu|hiu
 ·rw[if_pos hiu]at J;have e0:decide (i=u.id)=true:=decide_eq_true hiu;have g0:decide (d.it.kind=0)=false:=decide_eq_false (by omega);have g6:decide (d.it.kind=6)=false:=decide_eq_false (by omega);rw[ac,←J];unfold Dd.cs aY;simp only;rw[eH]at V ⊢;rw[aa]at hO ⊢;refine Pure.w c31 λR N=>?_;unfold s31 r31;(repeat' (first|(with_reducible first|refine ab hC ?_|refine ab V ?_|refine ab hO ?_)|simp only[EV,seval,Z,e0,g0,g6,am,E]|simp only[EV,seval,Z,e0,g0,g6,am]|(with_reducible intro Y I;(try(have D:=I;simp only[EVK]at D;first|(have E:=AI D E)|(have E:=D))))|fail))
  all_goals exact RQ N
 rw[if_neg hiu]at J;have e0:decide (i=u.id)=false:=decide_eq_false hiu;obtain⟨p,dO,j,w1,w2,bh⟩:=br hu.nd hi (Ne.symm hiu);obtain⟨hj,aw,_⟩:=eJ hu i _ w1;simp only at hj aw;have hP:=f83 G i u ad;unfold iZ at hP;rw[eU u hu.nd hi,w1]at hP;rw[w2]at J;simp only at hP J;have O:=f82 G i u ad;obtain⟨ni,be,bb⟩:=(mO i u).1 hi;rw[bb]at O;have al:=(dQ (hu.node _ (aU u hu.nd hi))).words.1;obtain⟨X,hX⟩:∃X,fnd i u=X:=⟨_,rfl⟩;rw[hX]at O J al;have T:=λy=>f85 G y u ad;rw[hH p]at hP;rw[hH X]at O;rw[aa]at hP O T hO;simp only[Idd.cs]at hP O;rw[ac];unfold Dd.cs aY;rw[eH]at V ⊢;rw[aa]
 rcases F with F|F|F|F|F
 ·have M:=f84 G p.kids j hj (by omega);have hB:=T {p with kids:=aN p.kids j};rw[hH {p with kids:=aN p.kids j}]at hB;rw[if_pos F]at J;rw[←J];rw[F]at hC V;refine Pure.w c31 λR N=>?_;unfold s31 r31;(repeat' (first|(with_reducible first|refine ab hC ?_|refine ab V ?_|refine ab hO ?_|refine ab O ?_|refine ab hP ?_|refine ab M ?_|refine ab hB ?_)|simp only[EV,seval,Z,e0,F,am,E]|simp only[EV,seval,Z,e0,F,am]|(with_reducible intro Y I;(try(have D:=I;simp only[EVK]at D;first|(have E:=AI D E)|(have E:=D))))|fail))
  all_goals exact RQ N
 ·obtain⟨m1,m2,m3,m4,m5⟩:=j2 hm (.inl F);have M:=f86 G X.words d.it d.act d.item al m2 m1 (.inl F) m4 m3 λh h'=>(m5 h).2 h';rw[if_neg (by omega),if_pos (.inl F)]at J;obtain⟨⟨w',f⟩,hq⟩:∃q,bu X.words d.it d.act d.item=q:=⟨_,rfl⟩;have hB:=T {X with words:=w'};rw[hH {X with words:=w'}]at hB;unfold fS at M;rw[hq]at J M;simp only at J M;rw[eH]at M;rw[F]at hC V M;refine Pure.w c31 λR N=>?_;unfold s31 r31
  rcases Classical.em (f=0)with hf|hf
  ·have e2:decide (f≠0)=false:=decide_eq_false (by simp[hf]);rw[if_neg (by simp[hf])]at J;rw[←J]at N;(repeat' (first|(with_reducible first|refine ab hC ?_|refine ab V ?_|refine ab hO ?_|refine ab O ?_|refine ab hP ?_|refine ab M ?_|refine ab hB ?_)|simp only[EV,seval,Z,e0,e2,F,am,E]|simp only[EV,seval,Z,e0,e2,F,am]|(with_reducible intro Y I;(try(have D:=I;simp only[EVK]at D;first|(have E:=AI D E)|(have E:=D))))|fail))
   all_goals exact RQ N
  ·have e2:decide (f≠0)=true:=decide_eq_true hf;rw[if_pos hf]at J;rw[←J]at N;simp only at N;rw[aa]at N;(repeat' (first|(with_reducible first|refine ab hC ?_|refine ab V ?_|refine ab hO ?_|refine ab O ?_|refine ab hP ?_|refine ab M ?_)|simp only[EV,seval,Z,e0,e2,F,am,E]|simp only[EV,seval,Z,e0,e2,F,am]|(with_reducible intro Y I;(try(have D:=I;simp only[EVK]at D;first|(have E:=AI D E)|(have E:=D))))|fail))
   all_goals exact RQ N
 ·obtain⟨m1,m2,m3,m4,m5⟩:=j2 hm (.inr F);have M:=f86 G X.words d.it d.act d.item al m2 m1 (.inr F) m4 m3 λh h'=>(m5 h).2 h';rw[if_neg (by omega),if_pos (.inr F)]at J;obtain⟨⟨w',f⟩,hq⟩:∃q,bu X.words d.it d.act d.item=q:=⟨_,rfl⟩;have hB:=T {X with words:=w'};rw[hH {X with words:=w'}]at hB;unfold fS at M;rw[hq]at J M;simp only at J M;rw[eH]at M;rw[F]at hC V M;refine Pure.w c31 λR N=>?_;unfold s31 r31
  rcases Classical.em (f=0)with hf|hf
  ·have e2:decide (f≠0)=false:=decide_eq_false (by simp[hf]);rw[if_neg (by simp[hf])]at J;rw[←J]at N;(repeat' (first|(with_reducible first|refine ab hC ?_|refine ab V ?_|refine ab hO ?_|refine ab O ?_|refine ab hP ?_|refine ab M ?_|refine ab hB ?_)|simp only[EV,seval,Z,e0,e2,F,am,E]|simp only[EV,seval,Z,e0,e2,F,am]|(with_reducible intro Y I;(try(have D:=I;simp only[EVK]at D;first|(have E:=AI D E)|(have E:=D))))|fail))
   all_goals exact RQ N
  ·have e2:decide (f≠0)=true:=decide_eq_true hf;rw[if_pos hf]at J;rw[←J]at N;simp only at N;rw[aa]at N;(repeat' (first|(with_reducible first|refine ab hC ?_|refine ab V ?_|refine ab hO ?_|refine ab O ?_|refine ab hP ?_|refine ab M ?_)|simp only[EV,seval,Z,e0,e2,F,am,E]|simp only[EV,seval,Z,e0,e2,F,am]|(with_reducible intro Y I;(try(have D:=I;simp only[EVK]at D;first|(have E:=AI D E)|(have E:=D))))|fail))
   all_goals exact RQ N
 ·have M:=f87 G d.it.new d.act d.item 0 (by have:=lH hm F;omega) (by decide) (by decide);have hB:=T {X with head:=aL d.act d.item d.it.new 0};rw[hH {X with head:=aL d.act d.item d.it.new 0}]at hB;rw[if_neg (by omega),if_neg (by omega),if_pos F]at J;rw[←J];rw[F]at hC V;refine Pure.w c31 λR N=>?_;unfold s31 r31;(repeat' (first|(with_reducible first|refine ab hC ?_|refine ab V ?_|refine ab hO ?_|refine ab O ?_|refine ab hP ?_|refine ab M ?_|refine ab hB ?_)|simp only[EV,seval,Z,e0,F,am,E]|simp only[EV,seval,Z,e0,F,am]|(with_reducible intro Y I;(try(have D:=I;simp only[EVK]at D;first|(have E:=AI D E)|(have E:=D))))|fail))
  all_goals exact RQ N
 ·have M:=f88 G p.kids X.kind d.it.label (by omega);have hB:=T {X with label:=d.it.label};rw[hH {X with label:=d.it.label}]at hB;rw[if_neg (by omega),if_neg (by omega),if_neg (by omega)]at J;rw[F]at hC V;refine Pure.w c31 λR N=>?_;unfold s31 r31
  cases ht:cU p.kids X.kind d.it.label with
  |true=>
   rw[ht]at M J;rw[if_pos rfl]at J;rw[←J]at N;simp only at N;rw[aa]at N;(repeat' (first|(with_reducible first|refine ab hC ?_|refine ab V ?_|refine ab hO ?_|refine ab O ?_|refine ab hP ?_|refine ab M ?_)|simp only[EV,seval,Z,e0,F,am,E]|simp only[EV,seval,Z,e0,F,am]|(with_reducible intro Y I;(try(have D:=I;simp only[EVK]at D;first|(have E:=AI D E)|(have E:=D))))|fail))
   all_goals exact RQ N
  |false=>
   rw[ht]at M J;rw[if_neg (by decide)]at J;rw[←J]at N;(repeat' (first|(with_reducible first|refine ab hC ?_|refine ab V ?_|refine ab hO ?_|refine ab O ?_|refine ab hP ?_|refine ab M ?_|refine ab hB ?_)|simp only[EV,seval,Z,e0,F,am,E]|simp only[EV,seval,Z,e0,F,am]|(with_reducible intro Y I;(try(have D:=I;simp only[EVK]at D;first|(have E:=AI D E)|(have E:=D))))|fail))
   all_goals exact RQ N
end
section
variable (G:Glob)
end
section
variable (G:Glob) (hG:GOk G)
include hG
end
section
variable (G:Glob) (hG:GOk G)
include hG
end
section
variable (G:Glob)
def f43 (hG:GOk G) (u:U) (hu:Good u) (a:Ac) (hl:a.items.length<1000000) (hs:∀d∈a.deeds,d.it.Shorts):Pure G Tryz.prog 43 [.agg u.cs,.agg a.cs] (kx (allP u a.deeds)):=by
 have hA:=f96 G hG u hu a.deeds (by unfold Ac.deeds;rw[cd];exact hl) hs;unfold Ac.cs;refine Pure.w c43 λR hR=>?_;unfold s43 r43;unfold kx at hA hR;(repeat' (first|simp only[EV,seval]|(with_reducible intro J E;(try(have F:=E;simp only[EVK]at F;(have D:=F))))|fail));generalize aa:J=b4 at*;refine ap (ι:=Option Nat) a.items (λi r c=>∀d,c=some d->d∉Store.keys [(b4,AObj.cells 27 zU)]) (λi c=>[(2,.ref u.cs),(3,.ref [.i a.number,.str a.title,.i a.day,.i a.start.kind,.i a.start.day,.str a.start.event,.lst 25 (a.items.map Itm.cs)]),(4,.p b4),(6,.own c 36 28 ((bO a 0 (a.items.take i)).map Dd.cs)),(10,.lst 25 (a.items.map Itm.cs)),(11,.i a.items.length),(12,.i i)]) (λi c=>[(b4,.cells 27 zU)]++tokS c 36 (i*28)) none (by simp) (Weak.of (by simp[cj,Env.get,AVle,aH,bO]) (SubN.refl _)) (by omega) (λi x r c N I hw=>?_) (λc N hn=>?_)
 ·have hi:=I.lt;have O:=sE x;clear D F E;have D:=True.intro;(repeat' (first|simp only[EV,seval,I.yes,I.le0,I.lt',I.get,I.row,hw,O,eH,D]|(with_reducible intro J E;(try(have F:=E;simp only[EVK]at F;(have D:=AI F D))))|fail));obtain⟨Y,Z,_⟩:=D
  have X:∀d,c=some d->d∈(tokS c 36 (i*28)).keys:=by
   intro d M;rw[M];simp[tokS,Store.keys]
  refine⟨[Dd.cs ⟨a.number,(i:Int),a.day,x⟩],rfl,by simp[Dd.cs,O],by simp[Dd.cs,eH],?_⟩;refine km (sz:=28) (bytes:=392) (rows:=(bO a 0 (a.items.take i)).map Dd.cs) (ys:=[Dd.cs ⟨a.number,(i:Int),a.day,x⟩]) (m:=i*28) [(J,_)] [(_,_),(b4,_)] ?_ ?_ (by rw[length_map,cd,length_take,Nat.min_eq_left (by omega)]) ?_ (by rw[length_map,cd,length_take];simp;omega) (λgn V=>?_)
  ·intro p hp;simp only[mem_singleton]at hp;subst hp;simp[Store.keys,Y];simpa[Store.keys]using Y.2.2
  ·intro d M;have T:=X d M;have h2:=N d M;simp[Store.keys]at h2 ⊢;exact⟨λq=>Z.2 (q ▸ T),h2⟩
  ·simp[Store.keys,Z]
  (repeat' (simp only[EV,seval,Y,Z,hw,D]))
  have e:(bO a 0 (a.items.take (i+1))).map Dd.cs=(bO a 0 (a.items.take i)).map Dd.cs++[Dd.cs ⟨a.number,(i:Int),a.day,x⟩]:=by
   have T:(a.items.take i).length=i:=by rw[length_take];omega
   rw[I.take,jo,T,Nat.zero_add,map_append];rfl
  have e2:((bO a 0 (a.items.take i)).map Dd.cs++[Dd.cs ⟨a.number,(i:Int),a.day,x⟩]).length=i+1:=by
   rw[←e,length_map,cd,length_take];omega
  refine ak I gn ?_ ?_
  ·intro d M;have:=V d M;simp[Store.keys]at this ⊢;exact this.2
  ·rw[e2,←e];exact Weak.sub (SubN.tail (SubN.refl _) _)
 ·(repeat' (first|simp only[EV,seval,hn,D]|(refine aP hA ⟨rW _,.inl (.inr ⟨rfl,by rw[take_length];rfl⟩),trivial⟩ ?_)|fail));exact RQ hR
end
end Go.Av
