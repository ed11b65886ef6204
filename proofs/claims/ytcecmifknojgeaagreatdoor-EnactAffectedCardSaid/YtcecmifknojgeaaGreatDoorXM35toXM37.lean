/-
  ENACT, M35: a unit moved, by the document.
-/
import Derived.Test.YtcecmifknojgeaaGreatDoorXM7toXM9
import Derived.Test.YtcecmifknojgeaaGreatDoorXE1toXE5
import Derived.Test.YtcecmifknojgeaaGreatDoorXM27toXM31
import Derived.Test.YtcecmifknojgeaaGreatDoorXM32toXE17
import Derived.Test.YtcecmifknojgeaaGreatDoorXN1toXN0
namespace Go.Av
open Go Go.RowKit Go.Proofs List
set_option linter.unusedSimpArgs false
set_option linter.unusedVariables false
def mvR (u:U) (i t:Idd) (d:Dd) (p:U) (dp:Nat):U×Int:=
 if bJ p (cA p (parR i u).1 (parR i u).2.2) (fnd i u)≠0 then (u,bJ p (cA p (parR i u).1 (parR i u).2.2) (fnd i u))
 else if 64<=(cA p (parR i u).1 (parR i u).2.2).length\/8<dp+1+(fnd i u).dep then (u,6)
 else if t=i then (u,0)
 else (U.put {fnd p.id (U.put {(parR i u).1 with kids:=aL (parR i u).1.kids (parR i u).2.2} u)with kids:=aR (fnd p.id (U.put {(parR i u).1 with kids:=aL (parR i u).1.kids (parR i u).2.2} u)).kids (atR (fnd p.id (U.put {(parR i u).1 with kids:=aL (parR i u).1.kids (parR i u).2.2} u)).kids t d.it.wh) (fnd i u)} (U.put {(parR i u).1 with kids:=aL (parR i u).1.kids (parR i u).2.2} u),0)
theorem movR_eq (u:U) (i t:Idd) (d:Dd):movR u i t d=if i=u.id\/besides d.it.wh=true/\t=u.id\/1<(U.way t (fnd i u)).length\/(U.way t (fnd i u)).length=1/\besides d.it.wh=false then (u,9)
  else mvR u i t d (if besides d.it.wh then (parR t u).1 else fnd t u) (if besides d.it.wh then (parR t u).2.1 else (U.way t u).length-1):=rfl
theorem W_tail9 {G:Glob} {P:Program} {a b c d e f g h k X:SCode} {Q:Exit->Env->Store->Prop} {tQ:Tag Q} {env:Env} {σ:Store}
  (hh:∀Y,Y=X->W G P (.seq a (.seq b (.seq c (.seq d (.seq e (.seq f (.seq g (.seq h (.seq k Y))))))))) Q env σ ⟨⟩):W G P (.seq a (.seq b (.seq c (.seq d (.seq e (.seq f (.seq g (.seq h (.seq k X))))))))) Q env σ tQ:=hh X rfl
theorem nodup6 {a b c d e f:Nat} {T:Prop} (h:(¬a=b/\¬a=c/\¬a=d/\¬a=e/\¬a=f)/\(¬b=c/\¬b=d/\¬b=e/\¬b=f)/\(¬c=d/\¬c=e/\¬c=f)/\(¬d=e/\¬d=f)/\¬e=f/\T):[a,b,c,d,e,f].Nodup:=by
 obtain⟨⟨o1,o2,o3,o4,o5⟩,⟨o6,o7,o8,o9⟩,⟨o10,o11,o12⟩,⟨o13,o14⟩,o15,_⟩:=h
 simp[*]
section
variable (G:Glob)
set_option maxHeartbeats 8000000 in
theorem f74 (u:U) (hu:Good u) (i:Idd) (hi:i∈u.ids) (d:Dd) (h0:0<=d.it.wh) (h3:d.it.wh<=3) (hp2:d.it.to_.length<1000000) (hpl:∀s∈d.it.to_,s.label.length<1000000000000000000):
  Pure G Tryz.prog 74 [.agg u.cs,.agg i.cs,.agg d.cs] (aQ (if (one u d.it.to_).2≠0 then (u,(one u d.it.to_).2)else movR u i (one u d.it.to_).1 d)):=by
 have ht0:=hu.short.1
 have hO:=f44 G u d.it.to_ ht0 hu.cnt hp2 hpl
 unfold gx at hO
 have htm:=bU (u:=u) (p:=d.it.to_)
 have hGx:=f45 G i u ht0
 have hgi:=(jz i u).1 hi
 obtain⟨ni,hni,hgi⟩:=hgi
 rw[hgi]at hGx
 obtain⟨⟨t,e⟩,hte⟩:∃z,one u d.it.to_=z:=⟨_,rfl⟩
 rw[hte]at hO htm ⊢
 simp only at hO htm ⊢
 have hcs:=U.cs_eq u
 rcases Classical.em (e=0)with he|he
 case inr=>
  rw[if_pos he]
  unfold Dd.cs aQ
  rw[Itm.cs_eq]
  refine Pure.w c74 λR hR=>?_
  unfold s74 r74
  have e1:decide (e≠0)=true:=decide_eq_true he
  (repeat' (first|(with_reducible refine ab hO ?_)|simp only[EVz,seval,↓reduceIte,EV6,EV7,e1,hne]|simp only[EVz,seval,↓reduceIte,EV6,EV7,e1]|(with_reducible intro blk hblk;(try(have hnx:=hblk;simp only[EVK]at hnx;first|(have hne:=AI hnx hne)|(have hne:=hnx))))|fail))
  all_goals exact RQ hR
 subst he
 rw[if_neg (by simp),movR_eq]
 have ht:=htm rfl
 obtain⟨X,hX⟩:∃X,fnd i u=X:=⟨_,rfl⟩
 have hXs:X.Tame:=by rw[←hX];exact(hu.short.node (aM u hu.nd hi)).1
 have hGt:=f45 G t X hXs
 rw[hX]at hGx ⊢
 unfold eY at hGt
 have hwl:=el t X
 obtain⟨Q,hQ⟩:∃Q,mvR u i t d (if besides d.it.wh then (parR t u).1 else fnd t u) (if besides d.it.wh then (parR t u).2.1 else (U.way t u).length-1)=Q:=⟨_,rfl⟩
 rw[hQ]
 have hb:besides d.it.wh=(decide (d.it.wh=2)||decide (d.it.wh=3)):=by unfold besides;rw[Bool.decide_or]
 obtain⟨bb,hbb⟩:∃bb,besides d.it.wh=bb:=⟨_,rfl⟩
 rw[hbb]at hb ⊢
 unfold Dd.cs aQ
 rw[Itm.cs_eq]
 rw[U.cs_eq X]at hGx hGt
 simp only[Idd.cs]at hGx hGt ⊢
 rw[hcs]at hO hGx ⊢
 refine Pure.w c74 λR hR=>?_
 unfold s74 r74
 refine W_tail9 (λY hY=>?_)
 have tail:∀(P:U) (dp:Nat) (b3 b6 b8 b11 b13 b15:Nat) (Z:List AV),[b15,b13,b11,b8,b6,b3].Nodup->i≠u.id->MvOk u i t d.it.wh P dp->(∀z σ,AVle z (aQ (mvR u i t d P dp))->RET z σ R)->
   W G Tryz.prog Y (retQ [(6,some (true,8)),(7,none)] R) [(3,.sc (.pointer (some ⟨b3,0,none⟩))),(4,.ref i.cs),(5,.ref d.cs),(6,.sc (.pointer (some ⟨b6,0,none⟩))),(8,.sc (.pointer (some ⟨b8,0,none⟩))),(10,.bool bb),(11,.sc (.pointer (some ⟨b11,0,none⟩))),(15,.sc (.pointer (some ⟨b15,0,none⟩))),(16,.int .i64 dp)]
    [(b15,.cells 27 P.cs),(b13,.cells 27 Z),(b11,.cells 27 X.cs),(b8,.cells 23 t.cs),(b6,.cells 27 zU),(b3,.cells 27 u.cs)] ⟨⟩:=by
  intro P dp b3 b6 b8 b11 b13 b15 Z hnd hiu hok hT
  obtain⟨old,dO,j,w1,w2,hpp⟩:=aW hu.nd hi (Ne.symm hiu)
  obtain⟨hj,hk64,_⟩:=er hu i _ w1
  simp only at hj hk64
  have hP:=f75 G i u ht0
  unfold ip at hP
  rw[eF u hu.nd hi,w1]at hP
  have hN:=f147 G P.kind X.kind
  have hDp:=f148 G X hXs
  unfold mvR at hT
  rw[w2,hX]at hT
  simp only at hT hP
  rw[nodup_cons]at hnd
  simp only[mem_cons,not_mem_nil,or_false,not_or,nodup_cons,nodup_nil,and_true,not_false_eq_true]at hnd
  obtain⟨⟨n1,n2,n3,n4,n5⟩,⟨n6,n7,n8,n9⟩,⟨n10,n11,n12⟩,⟨n13,n14⟩,n15⟩:=hnd
  have hrs:cA P old j=if old.id=P.id then aL P.kids j else P.kids:=rfl
  clear hO hGx hGt hR hQ
  rw[U.cs_eq P,U.cs_eq X,U.cs_eq u]
  unfold Dd.cs
  rw[Itm.cs_eq]
  simp only[Idd.cs,zU]at hP ⊢
  rw[U.cs_eq old,U.cs_eq u]at hP
  rw[U.cs_eq X]at hDp
  subst hY
  cases hnb:nests P.kind X.kind with
  |false=>
   rw[hnb]at hN
   have htk:bJ P (cA P old j) X=9:=by unfold bJ;rw[hnb,if_pos rfl]
   rw[htk,if_pos (by decide)]at hT
   unfold aQ at hT
   simp only at hT
   rw[U.cs_eq u]at hT
   (repeat' (first|(with_reducible refine ab hN ?_)|simp only[EVz,seval,↓reduceIte,EV6,EV7,n1,n2,n3,n4,n5,n6,n7,n8,n9,n10,n11,n12,n13,n14,n15]|fail))
   all_goals exact hT _ _ (.inl (.inl rfl))
  |true=>
   rw[hnb]at hN
   have hXd:=X.dep_ge
   have hXd2:X.dep<1000000:=by
    have h1:=X.dep_cnt
    have h2:=hXs.2
    unfold U.cnt at h1
    omega
   have hdp:=hok.dp
   have v1:IntKind.i64.wrap ((dp:Int)+1)=(dp:Int)+1:=au (by omega) (by omega)
   have v2:IntKind.i64.wrap ((dp:Int)+1+X.dep)=(dp:Int)+1+X.dep:=au (by omega) (by omega)
   have hk0:=hok.kids
   have hOu:=f76 G old.kids j hj (by omega)
   have hput:U.put {old with kids:=aL old.kids j} u=without i u:=by
    have:=fq u hu.nd hpp.mem λl=>aL l j
    rw[hpp.fnd]at this
    rw[this]
    unfold without
    rw[w1]
   rw[hput]at hT
   obtain⟨l,hl⟩:∃l,cA P old j=l:=⟨_,rfl⟩
   have hl2:l.length<=64:=by
    rw[←hl]
    unfold cA
    split
    ·next ho=>
     have e:P=old:=by rw[←hok.here,←ho,hpp.fnd]
     rw[e,g9 hj]
     omega
    ·exact hk0
   have htk:bJ P l X=if cK l X.kind X.label then 10 else 0:=by unfold bJ;rw[hnb,if_neg (by decide)]
   rw[hl,htk]at hT
   have hTk:=f79 G l X.kind X.label (by omega)
   obtain⟨b1,e1,hgo⟩:∃b1,decide (old.id=P.id)=b1/\(b1=true/\P=old/\l=aL old.kids j\/b1=false/\l=P.kids):=by
    rcases Classical.em (old.id=P.id)with ho|ho
    ·exact⟨true,decide_eq_true ho,.inl ⟨rfl,by rw[←hok.here,←ho,hpp.fnd],by rw[←hl];unfold cA;rw[if_pos ho,hok.here.symm,←ho,hpp.fnd]⟩⟩
    ·exact⟨false,decide_eq_false ho,.inr ⟨rfl,by rw[←hl];unfold cA;rw[if_neg ho]⟩⟩
   have hT1:cK l X.kind X.label=true->∀z σ,AVle z (aQ (u,10))->RET z σ R:=λh=>by
    rw[h,if_pos rfl,if_pos (by decide)]at hT
    exact hT
   have hT2:cK l X.kind X.label=false->64<=l.length\/8<(dp:Int)+1+X.dep->∀z σ,AVle z (aQ (u,6))->RET z σ R:=λh h'=>by
    simp only[h,Bool.false_eq_true,if_false,ne_eq,not_true_eq_false]at hT
    rw[if_pos h']at hT
    exact hT
   have hT3:cK l X.kind X.label=false->¬(64<=l.length\/8<(dp:Int)+1+X.dep)->t=i->∀z σ,AVle z (aQ (u,0))->RET z σ R:=λh h' h2=>by
    simp only[h,Bool.false_eq_true,if_false,ne_eq,not_true_eq_false]at hT
    rw[if_neg h',if_pos h2]at hT
    exact hT
   have hT4:cK l X.kind X.label=false->¬(64<=l.length\/8<(dp:Int)+1+X.dep)->t≠i->∀z σ,AVle z (aQ (U.put {fnd P.id (without i u)with kids:=aR (fnd P.id (without i u)).kids (atR (fnd P.id (without i u)).kids t d.it.wh) X} (without i u),0))->RET z σ R:=λh h' h2=>by
    simp only[h,Bool.false_eq_true,if_false,ne_eq,not_true_eq_false]at hT
    rw[if_neg h',if_neg h2]at hT
    exact hT
   clear hT
   unfold aQ at hT1 hT2 hT3 hT4
   simp only at hT1 hT2 hT3 hT4
   rw[U.cs_eq u]at hT1 hT2 hT3
   have hbt:(true&&(true&&(true&&true)))=true:=rfl
   rcases Classical.em (t=i)with hti|hti
   case inl=>
    subst hti
    have e0:decide (t=t)=true:=decide_eq_true rfl
    clear hl hrs hput hok hpp
    rcases hgo with⟨rfl,rfl,rfl⟩|⟨rfl,rfl⟩
    all_goals(repeat' (first|(with_reducible (first|refine ae (λh=>?_) (λh=>?_)|refine ag (λh=>?_) (λh=>?_))<;>(try simp only[Da,Db,Dc,Dw,De,Df,Dg,Dh]at h))|(with_reducible first|refine ab hN ?_|refine ab hP ?_|refine ab hOu ?_|refine ab hTk ?_|refine ab hDp ?_)|simp only[EVz,seval,↓reduceIte,EV6,EV7,ai,e0,e1,hbt,v1,v2,n1,n2,n3,n4,n5,n6,n7,n8,n9,n10,n11,n12,n13,n14,n15,hne]|simp only[EVz,seval,↓reduceIte,EV6,EV7,ai,e0,e1,hbt,v1,v2,n1,n2,n3,n4,n5,n6,n7,n8,n9,n10,n11,n12,n13,n14,n15]|(with_reducible intro blk hblk;(try(have hnx:=hblk;simp only[EVK]at hnx;(have hne:=hnx))))|fail))
    all_goals first|exact hT1 (by assumption) _ _ (.inl (.inl rfl))|exact hT2 (by assumption) (by omega) _ _ (.inl (.inl rfl))|exact hT3 (by assumption) (by omega) rfl _ _ (.inl (.inl rfl))
   ·have hT4:=λa b=>hT4 a b hti
    obtain⟨hg1,-,-,-⟩:=ff hu hi (Ne.symm hiu)
    have ht1:=hg1.short.1
    have hout:=hok.out hti
    have hf1:=hok.few hti
    have hpos:=hok.pos hti
    have e0:decide (t=i)=false:=decide_eq_false hti
    have hWi:=f77 G {old with kids:=aL old.kids j} u ht0
    rw[hput,U.cs_eq {old with kids:=aL old.kids j},U.cs_eq u]at hWi
    obtain⟨u1,hu1⟩:∃u1,without i u=u1:=⟨_,rfl⟩
    rw[hu1]at hT4 hWi ht1 hout hf1 hpos hg1
    obtain⟨p1,hp1⟩:∃p1,fnd P.id u1=p1:=⟨_,rfl⟩
    have hGe:=f45 G P.id u1 ht1
    obtain⟨m0,_,hgv⟩:=(jz P.id u1).1 hout
    rw[hgv,hp1,U.cs_eq p1]at hGe
    rw[hp1]at hT4 hf1 hpos
    have hAt:=f151 G p1.kids t (by omega)
    have hW2:=f77 G {p1 with kids:=aR p1.kids (atR p1.kids t d.it.wh) X} u1 ht1
    rw[U.cs_eq {p1 with kids:=aR p1.kids (atR p1.kids t d.it.wh) X}]at hW2
    simp only[Idd.cs]at hWi hGe hW2 hAt
    have hIn:=λk hk=>f150 G p1.kids k X hk (by omega)
    rw[U.cs_eq X]at hIn
    obtain⟨k,hk,hkl⟩:∃k:Nat,atR p1.kids t d.it.wh=k/\k<=p1.kids.length/\(d.it.wh=0/\bb=false/\k=0\/d.it.wh=1/\bb=false/\k=p1.kids.length\/bb=true/\∃m:Nat,idxF (λk=>decide (k.id=t)) 0 p1.kids=m/\IntKind.i64.wrap ((m:Int)+1)=((m+1:Nat):Int)/\(d.it.wh=2/\k=m+1\/d.it.wh=3/\k=m)):=by
     have hh:d.it.wh=0\/d.it.wh=1\/d.it.wh=2\/d.it.wh=3:=by omega
     rcases hh with hw|hw|hw|hw
     ·exact⟨0,by unfold atR;rw[hw];rfl,by omega,.inl ⟨hw,by rw[hb,hw];rfl,rfl⟩⟩
     ·exact⟨_,by unfold atR;rw[hw];rfl,Nat.le_refl _,.inr (.inl ⟨hw,by rw[hb,hw];rfl,rfl⟩)⟩
     ·obtain⟨m,hm⟩:=hpos (by omega)
      have hml:=gi hm
      exact⟨m+1,by unfold atR;rw[hw,hm];rfl,hml,.inr (.inr ⟨by rw[hb,hw];rfl,m,by rw[fV _ _ _ _ hm,Nat.zero_add],by rw[au (by omega) (by omega)];omega,.inl ⟨hw,rfl⟩⟩)⟩
     ·obtain⟨m,hm⟩:=hpos (by omega)
      have hml:=gi hm
      exact⟨m,by unfold atR;rw[hw,hm];rfl,by omega,.inr (.inr ⟨by rw[hb,hw];rfl,m,by rw[fV _ _ _ _ hm,Nat.zero_add],by rw[au (by omega) (by omega)];omega,.inr ⟨hw,rfl⟩⟩)⟩
    rw[hk]at hT4 hW2
    have hIn:=hIn k hkl.1
    replace hkl:=hkl.2
    clear hT3 hpp hg1 hp1 hu1 hl hrs hput hok hk hpos hb
    rcases hgo with⟨rfl,rfl,rfl⟩|⟨rfl,rfl⟩
    all_goals rcases hkl with⟨hw,rfl,rfl⟩|⟨hw,rfl,rfl⟩|⟨rfl,m,hm,v3,⟨hw,rfl⟩|⟨hw,rfl⟩⟩
    all_goals try rw[hm]at hAt
    all_goals try rw[show((0:Nat):Int)=0 from rfl]at hIn
    all_goals first|(have v4:=v3)|(have v4:=hw)
    all_goals(repeat' (first|(with_reducible (first|refine ae (λh=>?_) (λh=>?_)|refine ag (λh=>?_) (λh=>?_))<;>(try simp only[Da,Db,Dc,Dw,De,Df,Dg,Dh]at h))|(with_reducible first|refine ab hN ?_|refine ab hP ?_|refine ab hOu ?_|refine ab hTk ?_|refine ab hDp ?_|refine ab hWi ?_|refine ab hGe ?_|refine ab hIn ?_|refine ab hW2 ?_|refine ab hAt ?_)|simp only[EVz,seval,↓reduceIte,EV6,EV7,ai,e0,e1,hw,v4,hbt,v1,v2,n1,n2,n3,n4,n5,n6,n7,n8,n9,n10,n11,n12,n13,n14,n15,hne]|simp only[EVz,seval,↓reduceIte,EV6,EV7,ai,e0,e1,hw,v4,hbt,v1,v2,n1,n2,n3,n4,n5,n6,n7,n8,n9,n10,n11,n12,n13,n14,n15]|(with_reducible intro blk hblk;(try(have hnx:=hblk;simp only[EVK]at hnx;(have hne:=hnx))))|fail))
    all_goals first|exact hT1 (by assumption) _ _ (.inl (.inl rfl))|exact hT2 (by assumption) (by omega) _ _ (.inl (.inl rfl))|exact hT4 (by assumption) (by omega) _ _ (.inl (.inl rfl))
 have hgt:eY t X= .tup [.agg (if U.way t X=[]then zU else (fnd t X).cs),.int .i64 (((U.way t X).length:Int)-1)]:=by
  unfold eY
  rcases hw:U.way t X with _|⟨x,l⟩
  ·rfl
  ·simp
 unfold eY at hgt
 rw[hgt]at hGt
 obtain⟨Z,hZ⟩:∃Z,(if U.way t X=[]then zU else (fnd t X).cs)=Z:=⟨_,rfl⟩
 have hZl:Z.length=8:=by
  rw[←hZ]
  split
  ·rfl
  ·exact U.cs_len _
 rw[hZ]at hGt
 have hbc:bb=true/\(d.it.wh=2\/d.it.wh=3)\/bb=false/\(d.it.wh=0\/d.it.wh=1):=by
  have hh:d.it.wh=0\/d.it.wh=1\/d.it.wh=2\/d.it.wh=3:=by omega
  rcases hh with h|h|h|h<;>rw[hb,h]<;>simp
 obtain⟨n,hn⟩:∃n,(U.way t X).length=n:=⟨_,rfl⟩
 rw[hn]at hGt hwl
 rw[hn]at hR
 obtain⟨b2,e2,hb2⟩:∃b2,decide (i=u.id)=b2/\(b2=true↔i=u.id):=⟨_,rfl,decide_eq_true_iff⟩
 obtain⟨b3,e3,hb3⟩:∃b3,decide (t=u.id)=b3/\(b3=true↔t=u.id):=⟨_,rfl,decide_eq_true_iff⟩
 have hRa:b2=true->∀z σ,AVle z (aQ (u,9))->RET z σ R:=λh=>by rw[if_pos (.inl (hb2.1 h))]at hR;exact hR
 have hRb:bb=true->b3=true->∀z σ,AVle z (aQ (u,9))->RET z σ R:=λh h'=>by rw[if_pos (.inr (.inl ⟨h,hb3.1 h'⟩))]at hR;exact hR
 have hRc:1<n->∀z σ,AVle z (aQ (u,9))->RET z σ R:=λh=>by rw[if_pos (.inr (.inr (.inl h)))]at hR;exact hR
 have hRd:n=1->bb=false->∀z σ,AVle z (aQ (u,9))->RET z σ R:=λh h'=>by rw[if_pos (.inr (.inr (.inr ⟨h,h'⟩)))]at hR;exact hR
 have hgo:b2=false->(bb=true->b3=false)->n<=1->(n=1->bb=true)->i≠u.id/\MvOk u i t d.it.wh (if bb then (parR t u).1 else fnd t u) (if bb then (parR t u).2.1 else (U.way t u).length-1)/\∀z σ,AVle z (aQ (mvR u i t d (if bb then (parR t u).1 else fnd t u) (if bb then (parR t u).2.1 else (U.way t u).length-1)))->RET z σ R:=by
  intro g1 g2 g3 g4
  have hiu:i≠u.id:=λe=>by rw[hb2.2 e]at g1;cases g1
  have hbt:¬(bb=true/\t=u.id):=λe=>by have:=hb3.2 e.2;rw[g2 e.1]at this;cases this
  have hXn:X.ids.Nodup:=by rw[←hX];exact fnd_nd u hu.nd hi
  have hw2:=way_two (t:=t) X hXn
  rw[hn]at hw2
  refine⟨hiu,?_,?_⟩
  ·obtain⟨P,dp,k,g⟩:=iP hu.nd ht h0 h3 (by rw[hbb];exact hbt)
   have hr:=g.ref
   rw[hbb]at hr
   rw[hr.1,hr.2]
   refine mv_ok hu hi hiu g λhti hm=>?_
   rw[hX]at hm
   have h1:(U.way t X)≠[]:=ci.2 hm
   have h2:n≠0:=λe=>h1 (length_eq_zero_iff.1 (hn.trans e))
   have h3:n=1:=by omega
   have h4:=hw2.2.1 h3
   rw[←hX,(dj u hu.nd hi).1]at h4
   exact hti h4
  ·rw[if_neg (by rintro(h|h|h|h);exact hiu h;exact hbt h;omega;have:=g4 h.1;rw[h.2]at this;cases this),←hQ,hbb]at hR
   exact hR
 have hGu:=f45 G t u ht0
 have hgu:eY t u= .tup [.agg (fnd t u).cs,.int .i64 (((U.way t u).length-1:Nat):Int)]:=by
  have hwp:=eo ht
  unfold eY
  rcases hw:U.way t u with _|⟨x,l⟩
  ·rw[hw]at hwp;simp at hwp
  ·simp
 rw[hgu,hcs]at hGu
 have hPa:b3=false->Pure G Tryz.prog 75 [.agg u.cs,.agg t.cs] (.tup [.agg (parR t u).1.cs,.int .i64 (parR t u).2.1,.int .i64 (parR t u).2.2]):=λh=>by
  obtain⟨p,d',j',q1,q2,q3⟩:=aW hu.nd ht (λe=>by rw[hb3.2 e.symm]at h;cases h)
  have hPp:=f75 G t u ht0
  unfold ip at hPp
  rw[eF u hu.nd ht,q1]at hPp
  rw[q2]
  exact hPp
 obtain⟨F,hF⟩:∃F,fnd t u=F:=⟨_,rfl⟩
 obtain⟨dF,hdF⟩:∃dF,(U.way t u).length-1=dF:=⟨_,rfl⟩
 obtain⟨P',hP'⟩:∃P',(parR t u).1=P':=⟨_,rfl⟩
 obtain⟨dP,hdP⟩:∃dP,(parR t u).2.1=dP:=⟨_,rfl⟩
 rw[hF,U.cs_eq F,hdF]at hGu
 rw[hP',hdP,hcs,U.cs_eq P']at hPa
 rw[hF,hdF,hP',hdP]at hgo
 simp only[Idd.cs]at hGu hPa
 unfold aQ at hRa hRb hRc hRd
 simp only at hRa hRb hRc hRd
 rw[hcs]at hRa hRb hRc hRd
 clear hR hgt hZ hX hQ hgu hcs
 rcases hbc with⟨rfl,hw⟩|⟨rfl,hw⟩
 ·simp only[if_true]at hgo
  have t1:=λg1 g2 g3 g4 b3 b6 b8 b11 b13 b15 Z hz=>tail P' dP b3 b6 b8 b11 b13 b15 Z hz (hgo g1 g2 g3 g4).1 (hgo g1 g2 g3 g4).2.1 (hgo g1 g2 g3 g4).2.2
  clear tail hgo
  unfold Dd.cs at t1
  rw[U.cs_eq P',U.cs_eq X,U.cs_eq u,Itm.cs_eq]at t1
  simp only[Idd.cs]at t1
  rcases hw with hw|hw
  all_goals(repeat' (first|(with_reducible (refine ag (λh=>?_) (λh=>?_))<;>(try simp only[Da,Db,Dc,Dw,De,Df,Dg,Dh]at h))|(with_reducible refine AI (by omega) ?_)|(with_reducible first|refine ab hO ?_|refine ab hGx ?_|refine ab hGt ?_|refine ab hGu ?_|refine ab (hPa (by assumption)) ?_)|simp only[EVz,seval,↓reduceIte,EV6,EV7,hw,ai,e2,e3,hne]|simp only[EVz,seval,↓reduceIte,EV6,EV7,hw,ai,e2,e3]|(with_reducible intro blk hblk;(try(have hnx:=hblk;simp only[EVK]at hnx;first|(have hne:=AI hnx hne)|(have hne:=hnx))))|fail))
  all_goals first|exact hRa (by assumption) _ _ (.inl (.inl rfl))|exact hRb rfl (by assumption) _ _ (.inl (.inl rfl))|exact hRc (by omega) _ _ (.inl (.inl rfl))|skip
  all_goals
   rw[hw]at t1
   exact t1 (by assumption) (λ_=>by assumption) (by omega) (λ_=>trivial) _ _ _ _ _ _ _ (nodup6 hne)
 ·simp only[Bool.false_eq_true,if_false]at hgo
  have t1:=λg1 g2 g3 g4 b3 b6 b8 b11 b13 b15 Z hz=>tail F dF b3 b6 b8 b11 b13 b15 Z hz (hgo g1 g2 g3 g4).1 (hgo g1 g2 g3 g4).2.1 (hgo g1 g2 g3 g4).2.2
  clear tail hgo
  unfold Dd.cs at t1
  rw[U.cs_eq F,U.cs_eq X,U.cs_eq u,Itm.cs_eq]at t1
  simp only[Idd.cs]at t1
  have w2:decide (d.it.wh=2)=false:=decide_eq_false (by omega)
  have w3:decide (d.it.wh=3)=false:=decide_eq_false (by omega)
  (repeat' (first|(with_reducible (refine ag (λh=>?_) (λh=>?_))<;>(try simp only[Da,Db,Dc,Dw,De,Df,Dg,Dh]at h))|(with_reducible refine AI (by omega) ?_)|(with_reducible first|refine ab hO ?_|refine ab hGx ?_|refine ab hGt ?_|refine ab hGu ?_)|simp only[EVz,seval,↓reduceIte,EV6,EV7,w2,w3,ai,e2,e3,hne]|simp only[EVz,seval,↓reduceIte,EV6,EV7,w2,w3,ai,e2,e3]|(with_reducible intro blk hblk;(try(have hnx:=hblk;simp only[EVK]at hnx;first|(have hne:=AI hnx hne)|(have hne:=hnx))))|fail))
  all_goals first|exact hRa (by assumption) _ _ (.inl (.inl rfl))|exact hRc (by omega) _ _ (.inl (.inl rfl))|exact hRd (by omega) rfl _ _ (.inl (.inl rfl))|skip
  all_goals
   have h9:=λZ=>t1 (by assumption) (λh=>by cases h) (by omega) (λh=>by omega) _ _ _ _ _ _ Z (nodup6 hne)
   subst hY
   (try simp only[EVz,seval,↓reduceIte,EV6,EV7,hne])
   have h9:=h9 (Z++List.drop Z.length [AV.int .i64 0,.int .i64 0,.int .i64 0,.int .i64 0,.str [],.nil,.nil,.nil])
   (try simp only[EVz,seval,↓reduceIte,EV6,EV7,hne]at h9)
   exact h9
end
section
variable (G:Glob)
set_option maxHeartbeats 8000000 in
theorem f40 (u:U) (hu:Good u) (d:Dd) (hs:d.it.Shorts):Pure G Tryz.prog 40 [.agg u.cs,.agg d.cs] (aQ (doR u d)):=by
 obtain⟨q1,_⟩:=(Itm.Shorts_eq d.it).1 hs
 have ht0:=hu.short.1
 have hC:=f42 G d.it.kind
 have hM:=f72 G d.it hs
 have hO:=f44 G u d.it.at_ ht0 hu.cnt q1.at_ q1.atl
 unfold gx at hO
 have hcs:=U.cs_eq u
 have hid:=bU (u:=u) (p:=d.it.at_)
 obtain⟨R0,hR0⟩:∃R0,doR u d=R0:=⟨_,rfl⟩
 by_cases hcm:chg d.it.kind=false\/d.it.may=false
 ·have e:R0=(u,1):=by rw[←hR0];unfold doR;rw[if_pos hcm]
  rw[hR0,e]
  unfold Dd.cs aQ
  simp only
  rw[Itm.cs_eq]at hM ⊢
  rw[hcs]
  refine Pure.w c40 λR hR=>?_
  unfold s40 r40
  (repeat' (first|(with_reducible (first|refine ae (λh=>?_) (λh=>?_)|refine ag (λh=>?_) (λh=>?_))<;>(try simp only[Da,Db,Dc,Dw,De,Df,Dg,Dh]at h))|(with_reducible first|refine ab hC ?_|refine ab hM ?_)|simp only[EVz,seval,↓reduceIte,EV6,EV7,hne]|simp only[EVz,seval,↓reduceIte,EV6,EV7]|(with_reducible intro blk hblk;(try(have hnx:=hblk;simp only[EVK]at hnx;(have hne:=hnx))))|fail))
  all_goals first|exact RQ hR|(exfalso;simp_all;done)
 rw[not_or,Bool.not_eq_false,Bool.not_eq_false]at hcm
 obtain⟨hc,hm⟩:=hcm
 rw[hc]at hC
 rw[hm]at hM
 obtain⟨⟨i,e⟩,hie⟩:∃z,one u d.it.at_=z:=⟨_,rfl⟩
 rw[hie]at hO hid
 have hd:=hR0
 unfold doR at hd
 rw[if_neg (by simp[hc,hm]),hie]at hd
 simp only at hO hid hd
 have h00:∀a b:Int,decide (a=b)=true↔a=b:=λa b=>decide_eq_true_iff
 rcases Classical.em (e=0)with he|he
 case inr=>
  rw[if_pos he]at hd
  have e1:decide (e≠0)=true:=decide_eq_true he
  rw[hR0,←hd]
  unfold Dd.cs aQ
  simp only
  rw[Itm.cs_eq]at hM ⊢
  rw[hcs]at hO ⊢
  refine Pure.w c40 λR hR=>?_
  unfold s40 r40
  (repeat' (first|(with_reducible first|refine ab hC ?_|refine ab hM ?_|refine ab hO ?_)|simp only[EVz,seval,↓reduceIte,EV6,EV7,e1,hne]|simp only[EVz,seval,↓reduceIte,EV6,EV7,e1]|(with_reducible intro blk hblk;(try(have hnx:=hblk;simp only[EVK]at hnx;first|(have hne:=AI hnx hne)|(have hne:=hnx))))|fail))
  all_goals exact RQ hR
 subst he
 have hi:=hid rfl
 rw[if_neg (by simp)]at hd
 have hk:d.it.kind=0\/d.it.kind=1\/d.it.kind=2\/d.it.kind=3\/d.it.kind=4\/d.it.kind=5\/d.it.kind=6:=by
  have:chg d.it.kind=true:=hc
  unfold chg at this
  simp at this
  omega
 have e1:decide ((0:Int)≠0)=false:=decide_eq_false (by simp)
 rcases Classical.em (d.it.kind=0\/d.it.kind=6)with hk0|hk0
 ·obtain⟨w0,w3⟩:=eM hm hk0
  have hA:∃fn,(d.it.kind=0/\fn=73\/d.it.kind=6/\fn=74)/\Pure G Tryz.prog fn [.agg u.cs,.agg i.cs,.agg d.cs] (aQ R0):=by
   rcases hk0 with h|h
   ·rw[if_pos h]at hd
    rw[←hd]
    exact⟨_,.inl ⟨h,rfl⟩,f73 G u hu i hi d w0 w3 ⟨fh hm h,gH hm h⟩⟩
   ·rw[if_neg (by omega),if_pos h]at hd
    rw[←hd]
    exact⟨_,.inr ⟨h,rfl⟩,f74 G u hu i hi d w0 w3 q1.to_ q1.tol⟩
  rw[hR0]
  obtain⟨fn,hf,hA⟩:=hA
  unfold Dd.cs aQ at hA ⊢
  rw[Itm.cs_eq]at hM hA ⊢
  rw[hcs]at hO hA ⊢
  simp only[Idd.cs]at hA
  refine Pure.w c40 λR hR=>?_
  unfold s40 r40
  rcases hf with⟨hk1,rfl⟩|⟨hk1,rfl⟩
  all_goals rw[hk1]at hC hM hA
  all_goals(repeat' (first|(with_reducible first|refine ab hC ?_|refine ab hM ?_|refine ab hO ?_|refine ab hA ?_)|simp only[EVz,seval,↓reduceIte,EV6,EV7,e1,hk1,hne]|simp only[EVz,seval,↓reduceIte,EV6,EV7,e1,hk1]|(with_reducible intro blk hblk;(try(have hnx:=hblk;simp only[EVK]at hnx;first|(have hne:=AI hnx hne)|(have hne:=hnx))))|fail))
  all_goals exact RQ hR
 rw[if_neg λh=>hk0 (.inl h),if_neg λh=>hk0 (.inr h)]at hd
 have hk1:d.it.kind=1\/d.it.kind=2\/d.it.kind=3\/d.it.kind=4\/d.it.kind=5:=by omega
 rcases Classical.em (i=u.id)with hiu|hiu
 ·rw[if_pos hiu]at hd
  have e0:decide (i=u.id)=true:=decide_eq_true hiu
  have g0:decide (d.it.kind=0)=false:=decide_eq_false (by omega)
  have g6:decide (d.it.kind=6)=false:=decide_eq_false (by omega)
  rw[hR0,←hd]
  unfold Dd.cs aQ
  simp only
  rw[Itm.cs_eq]at hM ⊢
  rw[hcs]at hO ⊢
  refine Pure.w c40 λR hR=>?_
  unfold s40 r40
  (repeat' (first|(with_reducible first|refine ab hC ?_|refine ab hM ?_|refine ab hO ?_)|simp only[EVz,seval,↓reduceIte,EV6,EV7,e1,e0,g0,g6,ai,hne]|simp only[EVz,seval,↓reduceIte,EV6,EV7,e1,e0,g0,g6,ai]|(with_reducible intro blk hblk;(try(have hnx:=hblk;simp only[EVK]at hnx;first|(have hne:=AI hnx hne)|(have hne:=hnx))))|fail))
  all_goals exact RQ hR
 rw[if_neg hiu]at hd
 have e0:decide (i=u.id)=false:=decide_eq_false hiu
 obtain⟨p,dO,j,w1,w2,hpp⟩:=aW hu.nd hi (Ne.symm hiu)
 obtain⟨hj,hk64,_⟩:=er hu i _ w1
 simp only at hj hk64
 have hP:=f75 G i u ht0
 unfold ip at hP
 rw[eF u hu.nd hi,w1]at hP
 rw[w2]at hd
 simp only at hP hd
 have hGx:=f45 G i u ht0
 obtain⟨ni,hni,hgi⟩:=(jz i u).1 hi
 rw[hgi]at hGx
 have hxw:=(dk (hu.node _ (aM u hu.nd hi))).words.1
 obtain⟨X,hX⟩:∃X,fnd i u=X:=⟨_,rfl⟩
 rw[hX]at hGx hd hxw
 have hWith:=λy=>f77 G y u ht0
 rw[U.cs_eq p]at hP
 rw[U.cs_eq X]at hGx
 rw[hcs]at hP hGx hWith hO
 simp only[Idd.cs]at hP hGx
 rw[hR0]
 unfold Dd.cs aQ
 rw[Itm.cs_eq]at hM ⊢
 rw[hcs]
 rcases hk1 with hk1|hk1|hk1|hk1|hk1
 ·have hA:=f76 G p.kids j hj (by omega)
  have hB:=hWith {p with kids:=aL p.kids j}
  rw[U.cs_eq {p with kids:=aL p.kids j}]at hB
  rw[if_pos hk1]at hd
  rw[←hd]
  rw[hk1]at hC hM
  refine Pure.w c40 λR hR=>?_
  unfold s40 r40
  (repeat' (first|(with_reducible first|refine ab hC ?_|refine ab hM ?_|refine ab hO ?_|refine ab hGx ?_|refine ab hP ?_|refine ab hA ?_|refine ab hB ?_)|simp only[EVz,seval,↓reduceIte,EV6,EV7,e1,e0,hk1,ai,hne]|simp only[EVz,seval,↓reduceIte,EV6,EV7,e1,e0,hk1,ai]|(with_reducible intro blk hblk;(try(have hnx:=hblk;simp only[EVK]at hnx;first|(have hne:=AI hnx hne)|(have hne:=hnx))))|fail))
  all_goals exact RQ hR
 ·obtain⟨m1,m2,m3,m4,m5⟩:=ja hm (.inl hk1)
  have hA:=f78 G X.words d.it d.act d.item hxw m2 m1 (.inl hk1) m4 m3 λh h'=>(m5 h).2 h'
  rw[if_neg (by omega),if_pos (.inl hk1)]at hd
  obtain⟨⟨w',f⟩,hq⟩:∃q,editE X.words d.it d.act d.item=q:=⟨_,rfl⟩
  have hB:=hWith {X with words:=w'}
  rw[U.cs_eq {X with words:=w'}]at hB
  unfold fA at hA
  rw[hq]at hd hA
  simp only at hd hA
  rw[Itm.cs_eq]at hA
  rw[hk1]at hC hM hA
  refine Pure.w c40 λR hR=>?_
  unfold s40 r40
  rcases Classical.em (f=0)with hf|hf
  ·have e2:decide (f≠0)=false:=decide_eq_false (by simp[hf])
   rw[if_neg (by simp[hf])]at hd
   rw[←hd]at hR
   (repeat' (first|(with_reducible first|refine ab hC ?_|refine ab hM ?_|refine ab hO ?_|refine ab hGx ?_|refine ab hP ?_|refine ab hA ?_|refine ab hB ?_)|simp only[EVz,seval,↓reduceIte,EV6,EV7,e1,e0,e2,hk1,ai,hne]|simp only[EVz,seval,↓reduceIte,EV6,EV7,e1,e0,e2,hk1,ai]|(with_reducible intro blk hblk;(try(have hnx:=hblk;simp only[EVK]at hnx;first|(have hne:=AI hnx hne)|(have hne:=hnx))))|fail))
   all_goals exact RQ hR
  ·have e2:decide (f≠0)=true:=decide_eq_true hf
   rw[if_pos hf]at hd
   rw[←hd]at hR
   simp only at hR
   rw[hcs]at hR
   (repeat' (first|(with_reducible first|refine ab hC ?_|refine ab hM ?_|refine ab hO ?_|refine ab hGx ?_|refine ab hP ?_|refine ab hA ?_)|simp only[EVz,seval,↓reduceIte,EV6,EV7,e1,e0,e2,hk1,ai,hne]|simp only[EVz,seval,↓reduceIte,EV6,EV7,e1,e0,e2,hk1,ai]|(with_reducible intro blk hblk;(try(have hnx:=hblk;simp only[EVK]at hnx;first|(have hne:=AI hnx hne)|(have hne:=hnx))))|fail))
   all_goals exact RQ hR
 ·obtain⟨m1,m2,m3,m4,m5⟩:=ja hm (.inr hk1)
  have hA:=f78 G X.words d.it d.act d.item hxw m2 m1 (.inr hk1) m4 m3 λh h'=>(m5 h).2 h'
  rw[if_neg (by omega),if_pos (.inr hk1)]at hd
  obtain⟨⟨w',f⟩,hq⟩:∃q,editE X.words d.it d.act d.item=q:=⟨_,rfl⟩
  have hB:=hWith {X with words:=w'}
  rw[U.cs_eq {X with words:=w'}]at hB
  unfold fA at hA
  rw[hq]at hd hA
  simp only at hd hA
  rw[Itm.cs_eq]at hA
  rw[hk1]at hC hM hA
  refine Pure.w c40 λR hR=>?_
  unfold s40 r40
  rcases Classical.em (f=0)with hf|hf
  ·have e2:decide (f≠0)=false:=decide_eq_false (by simp[hf])
   rw[if_neg (by simp[hf])]at hd
   rw[←hd]at hR
   (repeat' (first|(with_reducible first|refine ab hC ?_|refine ab hM ?_|refine ab hO ?_|refine ab hGx ?_|refine ab hP ?_|refine ab hA ?_|refine ab hB ?_)|simp only[EVz,seval,↓reduceIte,EV6,EV7,e1,e0,e2,hk1,ai,hne]|simp only[EVz,seval,↓reduceIte,EV6,EV7,e1,e0,e2,hk1,ai]|(with_reducible intro blk hblk;(try(have hnx:=hblk;simp only[EVK]at hnx;first|(have hne:=AI hnx hne)|(have hne:=hnx))))|fail))
   all_goals exact RQ hR
  ·have e2:decide (f≠0)=true:=decide_eq_true hf
   rw[if_pos hf]at hd
   rw[←hd]at hR
   simp only at hR
   rw[hcs]at hR
   (repeat' (first|(with_reducible first|refine ab hC ?_|refine ab hM ?_|refine ab hO ?_|refine ab hGx ?_|refine ab hP ?_|refine ab hA ?_)|simp only[EVz,seval,↓reduceIte,EV6,EV7,e1,e0,e2,hk1,ai,hne]|simp only[EVz,seval,↓reduceIte,EV6,EV7,e1,e0,e2,hk1,ai]|(with_reducible intro blk hblk;(try(have hnx:=hblk;simp only[EVK]at hnx;first|(have hne:=AI hnx hne)|(have hne:=hnx))))|fail))
   all_goals exact RQ hR
 ·have hA:=f57 G d.it.new d.act d.item 0 (by have:=lF hm hk1;omega) (by decide) (by decide)
  have hB:=hWith {X with head:=markW d.act d.item d.it.new 0}
  rw[U.cs_eq {X with head:=markW d.act d.item d.it.new 0}]at hB
  rw[if_neg (by omega),if_neg (by omega),if_pos hk1]at hd
  rw[←hd]
  rw[hk1]at hC hM
  refine Pure.w c40 λR hR=>?_
  unfold s40 r40
  (repeat' (first|(with_reducible first|refine ab hC ?_|refine ab hM ?_|refine ab hO ?_|refine ab hGx ?_|refine ab hP ?_|refine ab hA ?_|refine ab hB ?_)|simp only[EVz,seval,↓reduceIte,EV6,EV7,e1,e0,hk1,ai,hne]|simp only[EVz,seval,↓reduceIte,EV6,EV7,e1,e0,hk1,ai]|(with_reducible intro blk hblk;(try(have hnx:=hblk;simp only[EVK]at hnx;first|(have hne:=AI hnx hne)|(have hne:=hnx))))|fail))
  all_goals exact RQ hR
 ·have hA:=f79 G p.kids X.kind d.it.label (by omega)
  have hB:=hWith {X with label:=d.it.label}
  rw[U.cs_eq {X with label:=d.it.label}]at hB
  rw[if_neg (by omega),if_neg (by omega),if_neg (by omega)]at hd
  rw[hk1]at hC hM
  refine Pure.w c40 λR hR=>?_
  unfold s40 r40
  cases ht:cK p.kids X.kind d.it.label with
  |true=>
   rw[ht]at hA hd
   rw[if_pos rfl]at hd
   rw[←hd]at hR
   simp only at hR
   rw[hcs]at hR
   (repeat' (first|(with_reducible first|refine ab hC ?_|refine ab hM ?_|refine ab hO ?_|refine ab hGx ?_|refine ab hP ?_|refine ab hA ?_)|simp only[EVz,seval,↓reduceIte,EV6,EV7,e1,e0,hk1,ai,hne]|simp only[EVz,seval,↓reduceIte,EV6,EV7,e1,e0,hk1,ai]|(with_reducible intro blk hblk;(try(have hnx:=hblk;simp only[EVK]at hnx;first|(have hne:=AI hnx hne)|(have hne:=hnx))))|fail))
   all_goals exact RQ hR
  |false=>
   rw[ht]at hA hd
   rw[if_neg (by decide)]at hd
   rw[←hd]at hR
   (repeat' (first|(with_reducible first|refine ab hC ?_|refine ab hM ?_|refine ab hO ?_|refine ab hGx ?_|refine ab hP ?_|refine ab hA ?_|refine ab hB ?_)|simp only[EVz,seval,↓reduceIte,EV6,EV7,e1,e0,hk1,ai,hne]|simp only[EVz,seval,↓reduceIte,EV6,EV7,e1,e0,hk1,ai]|(with_reducible intro blk hblk;(try(have hnx:=hblk;simp only[EVK]at hnx;first|(have hne:=AI hnx hne)|(have hne:=hnx))))|fail))
   all_goals exact RQ hR
end
section
variable (G:Glob)
set_option maxHeartbeats 2000000 in
theorem f16:∀(u:U),u.Short->Pure G Tryz.prog 16 [.agg u.cs,.agg u.cs] (.bool true):=by
 refine U.ind λu ih hs=>?_
 obtain⟨h1,h2⟩:=hs.2 u (by rw[U.flat_eq];simp)
 have hW1:=f20 G u.head u.head (by omega)
 have hW2:=f20 G u.words u.words (by omega)
 rw[decide_eq_true rfl]at hW1 hW2
 have hsk:∀k∈u.kids,k.Short:=λk hk=>hs.node (by rw[U.flat_eq];exact mem_cons_of_mem _ (gB hk (by rw[U.flat_eq];simp)))
 have hkl:u.kids.length<1000000:=by
  have h3:=hs.1.2
  rw[U.flat_eq,length_cons]at h3
  have:=U.flats_len u.kids
  omega
 have e0:decide (u.id=u.id)=true:=decide_eq_true rfl
 have e1:decide (u.kind≠u.kind)=false:=decide_eq_false λh=>h rfl
 have e2:decide (u.label≠u.label)=false:=decide_eq_false λh=>h rfl
 have e3:decide (u.label=u.label)=true:=decide_eq_true rfl
 have e4:decide ((u.kids.length:Int)≠(u.kids.length:Int))=false:=decide_eq_false λh=>h rfl
 have hbt:(true&&(true&&(true&&true)))=true:=rfl
 refine Pure.w c16 λR hR=>?_
 unfold s16 r16
 (repeat' (first|(with_reducible first|refine ab hW1 ?_|refine ab hW2 ?_|refine ab (ih x hx.mem (hsk x hx.mem)) ?_)|simp only[EVz,seval,↓reduceIte,EV6,EV7,ai,e0,e1,e2,e3,e4,hbt,hx.yes,hx.le0,hx.lt',hx.get,hx.row,hw]|simp only[EVz,seval,↓reduceIte,EV6,EV7,ai,e0,e1,e2,e3,e4,hbt,hn]|simp only[EVz,seval,↓reduceIte,EV6,EV7,ai,e0,e1,e2,e3,e4,hbt]|(with_reducible refine ak ?_ ?_)|(with_reducible refine am ?_)|(refine af hx () ?_ (Weak.rfl' _ _))|(refine Zq (u.kids) (λi r (c:Unit)=>True) (λi c=>[(2,.ref u.cs),(3,.ref u.cs),(5,.int .i64 i)]) (λ_ _=>[]) () (by((simp;done))) (Weak.rfl' _ _) (by omega) (λi x r c hok hx hw=>?_) (λc hok hn=>?_))|fail))
 all_goals exact RQ hR
theorem f19 (m:List Ms) (hm:m.length<1000000):Pure G Tryz.prog 19 [.lst 3 (m.map Ms.cs),.lst 3 (m.map Ms.cs)] (.bool true):=by
 have e4:decide ((m.length:Int)≠(m.length:Int))=false:=decide_eq_false λh=>h rfl
 have hcs:∀x:Ms,x.cs=[.int .i64 x.act,.int .i64 x.item,.int .i64 x.why]:=λ_=>rfl
 have hd:∀a:Int,decide (a=a)=true:=λ_=>decide_eq_true rfl
 have hbt:(true&&(true&&(true&&true)))=true:=rfl
 refine Pure.w c19 λR hR=>?_
 unfold s19 r19
 (repeat' (first|simp only[EVz,seval,↓reduceIte,EV6,EV7,e4,hcs,hd,hbt,hx.yes,hx.le0,hx.lt',hx.get,hx.row,hw]|simp only[EVz,seval,↓reduceIte,EV6,EV7,e4,hcs,hd,hbt,hn]|simp only[EVz,seval,↓reduceIte,EV6,EV7,e4,hcs,hd,hbt]|(refine af hx () ?_ (Weak.rfl' _ _))|(refine Zq (m) (λi r (c:Unit)=>True) (λi c=>[(0,.lst 3 (m.map Ms.cs)),(1,.lst 3 (m.map Ms.cs)),(5,.int .i64 i)]) (λ_ _=>[]) () (by((simp;done))) (Weak.rfl' _ _) (by omega) (λi x r c hok hx hw=>?_) (λc hok hn=>?_))|fail))
 all_goals exact RQ hR
end
end Go.Av
