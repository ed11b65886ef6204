/-
  ENACT, M34: the units that an item affects.
-/
import Derived.Test.YtcecmifknojgeaaGreatDoorXM32toXE17
import Derived.Test.YtcecmifknojgeaaGreatDoorXM38toXN6
namespace Go.Av
open Go Go.RowKit Go.Proofs List
set_option linter.unusedSimpArgs false
set_option linter.unusedVariables false
section
variable (G:Glob) (hG:GOk G)
include hG
set_option maxHeartbeats 4000000 in
theorem f25 (u:U) (hu:Good u) (d:Dd) (hs:d.it.Shorts):Pure G Tryz.prog 25 [.agg u.cs,.agg d.cs] (.lst 3 ((aff u d).map Idd.cs)):=by
 have hA:=f14 G hG u hu d hs
 obtain⟨q1,_⟩:=(Itm.Shorts_eq d.it).1 hs
 have hO:=f39 G u d.it.at_ hu.short.1 hu.cnt q1.at_
 have hdid:=nb hu d
 unfold aQ at hA
 unfold gx at hO
 unfold aff
 obtain⟨⟨v,e⟩,hve⟩:∃z,doP u d=z:=⟨_,rfl⟩
 rw[hve]at hA hdid ⊢
 have hcs:=U.cs_eq u
 rcases Classical.em (e=0)with he|he
 ·subst he
  obtain⟨hm,hc,ho,hk0,_⟩:=hdid rfl
  clear hdid
  simp only at hA ⊢
  rw[if_neg (by simp)]
  have hi:=bU (u:=u) (p:=d.it.at_) ho
  obtain⟨⟨i,o⟩,hio⟩:∃z,one u d.it.at_=z:=⟨_,rfl⟩
  rw[hio]at hO ho hi ⊢
  simp only at hO ho hi ⊢
  subst ho
  rcases Classical.em (d.it.kind=0)with h0|h0
  ·rw[if_pos h0]
   have e1:decide (d.it.kind=0)=true:=decide_eq_true h0
   have hd:Unit0 d:=⟨fh hm h0,gH hm h0⟩
   have hus:=cf hd.nodes (by have:=hd.cnt;omega)
   have hSt:=f43 G d.it.unit d.act d.item hus (by have h1:=wt_le hd.nodes;have h2:=hd.cnt;omega)
   obtain⟨s1,s2,s3,s4,s5⟩:=dW d.it.unit d.act d.item hd.nodes
   obtain⟨x,hx⟩:∃x,stampU d.it.unit d.act d.item=x:=⟨_,rfl⟩
   rw[hx]at hSt s3 s5 ⊢
   have hxs:x.Short:=cf s5 (by rw[s3];have:=hd.cnt;omega)
   have hI:=f30 G x hxs.1
   clear s1 s2 s4 s5 hd
   unfold Dd.cs at hA ⊢
   rw[Itm.cs_eq]at hA ⊢
   rw[U.cs_eq d.it.unit]at hSt
   refine Pure.w c25 λR hR=>?_
   unfold s25 r25
   (repeat' (first|(with_reducible first|refine ab hA ?_|refine ab hO ?_|refine ab hSt ?_|refine ab hI ?_)|simp only[EVz,seval,↓reduceIte,EV6,EV7,e1,hne]|simp only[EVz,seval,↓reduceIte,EV6,EV7,e1]|(with_reducible intro blk hblk;(try(have hnx:=hblk;simp only[EVK]at hnx;first|(have hne:=AI hnx hne)|(have hne:=hnx))))|fail))
   all_goals exact RQ hR
  ·rw[if_neg h0]
   have e1:decide (d.it.kind=0)=false:=decide_eq_false h0
   rcases Classical.em (d.it.kind=1)with h1|h1
   ·rw[if_pos h1]
    have e2:decide (d.it.kind=1)=true:=decide_eq_true h1
    have hF:=f31 G i u hu.short
    unfold i8 at hF
    rw[gf hi,if_neg (by simp)]at hF
    have hI:=f30 G (fnd i u) (hu.short.node (aM u hu.nd hi)).1
    simp only[Idd.cs]at hF
    unfold Dd.cs at hA ⊢
    rw[Itm.cs_eq]at hA ⊢
    refine Pure.w c25 λR hR=>?_
    unfold s25 r25
    (repeat' (first|(with_reducible first|refine ab hA ?_|refine ab hO ?_|refine ab hF ?_|refine ab hI ?_)|simp only[EVz,seval,↓reduceIte,EV6,EV7,e1,e2,hne]|simp only[EVz,seval,↓reduceIte,EV6,EV7,e1,e2]|(with_reducible intro blk hblk;(try(have hnx:=hblk;simp only[EVK]at hnx;first|(have hne:=AI hnx hne)|(have hne:=hnx))))|fail))
    all_goals exact RQ hR
   ·rw[if_neg h1]
    have e2:decide (d.it.kind=1)=false:=decide_eq_false h1
    unfold Dd.cs at hA ⊢
    rw[Itm.cs_eq]at hA ⊢
    refine Pure.w c25 λR hR=>?_
    unfold s25 r25
    (repeat' (first|(with_reducible first|refine ab hA ?_|refine ab hO ?_)|simp only[EVz,seval,↓reduceIte,EV6,EV7,e1,e2,hne]|simp only[EVz,seval,↓reduceIte,EV6,EV7,e1,e2]|(with_reducible intro blk hblk;(try(have hnx:=hblk;simp only[EVK]at hnx;first|(have hne:=AI hnx hne)|(have hne:=hnx))))|(refine⟨[[.int .i64 i.act,.int .i64 i.item,.int .i64 i.n]],rfl,(by simp),rfl,?_⟩)|fail))
    all_goals exact hR _ _ (.inl (.inr ⟨rfl,rfl⟩))
 ·simp only at hA ⊢
  rw[if_pos he]
  unfold Dd.cs at hA ⊢
  rw[Itm.cs_eq]at hA ⊢
  clear hdid
  refine Pure.w c25 λR hR=>?_
  unfold s25 r25
  have e1:decide (e≠0)=true:=decide_eq_true he
  (repeat' (first|(with_reducible refine ab hA ?_)|simp only[EVz,seval,↓reduceIte,EV6,EV7,e1]|(with_reducible intro blk hblk;(try(have hnx:=hblk;simp only[EVK]at hnx;(have hne:=hnx))))|fail))
  all_goals exact hR _ _ (.inl (.inr rfl))
end
theorem may_unit0 {x:Itm} (h:x.may=true) (hk:x.kind≠0):x.unit.flat.length=1/\x.unit.wt=0:=by
 rw[Itm.may_eq,Bool.and_eq_true]at h
 have h2:=h.1
 unfold Itm.pre at h2
 simp only[Bool.and_eq_true,decide_eq_true_eq]at h2
 have h3:x.unit=x.told.unit:=congrArg Itm.unit h2.1.2
 have h4:x.told.unit=iz.unit:=by
  unfold Itm.told Itm.just
  split<;>simp only[if_neg hk]<;>(repeat' split)<;>rfl
 rw[h3,h4]
 exact⟨rfl,rfl⟩
section
variable (G:Glob)
theorem f27 (m:List Idd) (hm:m.length<1000000000):Pure G Tryz.prog 27 [.lst 3 (m.map Idd.cs),.lst 3 (m.map Idd.cs)] (.bool true):=by
 have e4:decide ((m.length:Int)≠(m.length:Int))=false:=decide_eq_false λh=>h rfl
 have hcs:∀x:Idd,x.cs=[.int .i64 x.act,.int .i64 x.item,.int .i64 x.n]:=λ_=>rfl
 have hd:∀a:Int,decide (a=a)=true:=λ_=>decide_eq_true rfl
 have hbt:(true&&(true&&(true&&true)))=true:=rfl
 refine Pure.w c27 λR hR=>?_
 unfold s27 r27
 (repeat' (first|simp only[EVz,seval,↓reduceIte,EV6,EV7,e4,hcs,hd,hbt,hx.yes,hx.le0,hx.lt',hx.get,hx.row,hw]|simp only[EVz,seval,↓reduceIte,EV6,EV7,e4,hcs,hd,hbt,hn]|simp only[EVz,seval,↓reduceIte,EV6,EV7,e4,hcs,hd,hbt]|(refine af hx () ?_ (Weak.rfl' _ _))|(refine Zq (m) (λi r (c:Unit)=>True) (λi c=>[(0,.lst 3 (m.map Idd.cs)),(1,.lst 3 (m.map Idd.cs)),(5,.int .i64 i)]) (λ_ _=>[]) () (by((simp;done))) (Weak.rfl' _ _) (by omega) (λi x r c hok hx hw=>?_) (λc hok hn=>?_))|fail))
 all_goals exact RQ hR
end
section
variable (G:Glob)
set_option maxHeartbeats 8000000 in
theorem f28 (u:U) (hu:Good u) (d:Dd) (hs:d.it.Shorts):Pure G Tryz.prog 28 [.agg u.cs,.agg d.cs] (.lst 3 ((aff u d).map Idd.cs)):=by
 have hA:=f40 G u hu d hs
 obtain⟨q1,_⟩:=(Itm.Shorts_eq d.it).1 hs
 have hO:=f44 G u d.it.at_ hu.short.1 hu.cnt q1.at_ q1.atl
 have hdid:=nb hu d
 rw[jk hu]at hA
 unfold aQ at hA
 unfold gx at hO
 unfold aff
 obtain⟨⟨v,e⟩,hve⟩:∃z,doP u d=z:=⟨_,rfl⟩
 rw[hve]at hA hdid ⊢
 have hcs:=U.cs_eq u
 rcases Classical.em (e=0)with he|he
 ·subst he
  obtain⟨hm,hc,ho,hk0,_⟩:=hdid rfl
  clear hdid
  simp only at hA ⊢
  rw[if_neg (by simp)]
  have hi:=bU (u:=u) (p:=d.it.at_) ho
  obtain⟨⟨i,o⟩,hio⟩:∃z,one u d.it.at_=z:=⟨_,rfl⟩
  rw[hio]at hO ho hi ⊢
  simp only at hO ho hi ⊢
  subst ho
  have hSt:=f13 G d.it.unit d.act d.item q1.unit (by
   rcases Classical.em (d.it.kind=0)with h0|h0
   ·have h1:=wt_le (fh hm h0);have h2:=gH hm h0;omega
   ·rw[(may_unit0 hm h0).2];decide)
  obtain⟨x,hx⟩:∃x,stampU d.it.unit d.act d.item=x:=⟨_,rfl⟩
  rcases Classical.em (d.it.kind=0)with h0|h0
  ·rw[if_pos h0]
   have e1:decide (d.it.kind≠0)=false:=decide_eq_false (by simp[h0])
   have hd:Unit0 d:=⟨fh hm h0,gH hm h0⟩
   obtain⟨s1,s2,s3,s4,s5⟩:=dW d.it.unit d.act d.item hd.nodes
   rw[hx]at hSt s3 s5 ⊢
   have hxs:x.Short:=cf s5 (by rw[s3];have:=hd.cnt;omega)
   have hI:=f22 G x hxs.1
   have hxl:=hxs.1.2
   clear s1 s2 s4 s5 hd
   unfold Dd.cs at hA ⊢
   rw[Itm.cs_eq]at hA ⊢
   rw[U.cs_eq d.it.unit]at hSt
   refine Pure.w c28 λR hR=>?_
   unfold s28 r28
   (repeat' (first|(with_reducible first|refine ab hA ?_|refine ab hSt ?_|refine ab hI ?_)|simp only[EVz,seval,↓reduceIte,EV6,EV7,e1,hne]|simp only[EVz,seval,↓reduceIte,EV6,EV7,e1]|(with_reducible intro blk hblk;(try(have hnx:=hblk;simp only[EVK]at hnx;first|(have hne:=AI hnx hne)|(have hne:=hnx))))|(refine⟨[],rfl,(by simp),rfl,?_⟩)|fail))
   rename_i b5 _ _ _ b6 _ _ _
   refine Zq (ι:=Option Nat) x.flat (λi r c=>True) (λi c=>[(5,.own c 23 3 ((x.flat.take i).map λy=>y.id.cs)),(11,.lst 8 (x.flat.map U.cs)),(12,.int .i64 i)]) (λi c=>tokS c 23 (i*3)) (some b5) trivial (Weak.sub ⟨λq hq=>by(simp[tokS]at hq;subst hq;simp),λ_=>by simp[Store.keys,tokS]⟩) (by omega) (λi z r c hok hx hw=>?_) (λc hok hn=>?_)
   ·have hi:=hx.lt
    clear hne hnx hblk
    (repeat' (first|simp only[EVz,seval,↓reduceIte,EV6,EV7,hx.yes,hx.le0,hx.lt',hx.row,hw,hx.get,hne]|(with_reducible intro blk hblk;(try(have hnx:=hblk;simp only[EVK]at hnx;(have hne:=hnx))))|fail))
    refine cV (n:=i) (m':=(i+1)*3) bI (by rw[length_map,length_take];omega) rfl rfl rfl (by assumption) (by omega) (λgn=>?_)
    refine af hx gn trivial ?_
    simp only[hx.take,map_append,map_cons,map_nil]
    exact Weak.rfl' _ _
   ·(repeat' (simp only[EVz,seval,↓reduceIte,EV6,EV7,hn,hne]))
    exact hR _ _ (Or.inl (Or.inr ⟨rfl,by rw[take_length];unfold U.ids;rw[map_map];rfl⟩))
  ·rw[if_neg h0]
   have e1:decide (d.it.kind≠0)=true:=decide_eq_true h0
   have hF:=f45 G i u hu.short.1
   obtain⟨ni,hni,hgi⟩:=(jz i u).1 hi
   rw[hgi]at hF
   simp only[Idd.cs]at hF
   have hys:=hu.short.node (aM u hu.nd hi)
   rw[hx]at hSt
   rcases Classical.em (d.it.kind=1)with h1|h1
   ·rw[if_pos h1]
    have e2:decide (d.it.kind≠1)=false:=decide_eq_false (by simp[h1])
    obtain⟨y,hy⟩:∃y,fnd i u=y:=⟨_,rfl⟩
    rw[hy]at hF hys ⊢
    have hI:=f22 G y hys.1
    have hxl:=hys.1.2
    unfold Dd.cs at hA ⊢
    rw[Itm.cs_eq]at hA ⊢
    rw[U.cs_eq d.it.unit]at hSt
    rw[hcs]at hF hO hA ⊢
    refine Pure.w c28 λR hR=>?_
    unfold s28 r28
    (repeat' (first|(with_reducible first|refine ab hA ?_|refine ab hSt ?_|refine ab hO ?_|refine ab hF ?_|refine ab hI ?_)|simp only[EVz,seval,↓reduceIte,EV6,EV7,e1,e2,hne]|simp only[EVz,seval,↓reduceIte,EV6,EV7,e1,e2]|(with_reducible intro blk hblk;(try(have hnx:=hblk;simp only[EVK]at hnx;first|(have hne:=AI hnx hne)|(have hne:=hnx))))|(refine⟨[],rfl,(by simp),rfl,?_⟩)|fail))
    rename_i b5 _ _ _ b6 _ _ _ b7 _ _ _
    refine Zq (ι:=Option Nat) y.flat (λi r c=>True) (λi c=>[(5,.own c 23 3 ((y.flat.take i).map λy=>y.id.cs)),(11,.lst 8 (y.flat.map U.cs)),(12,.int .i64 i)]) (λi c=>tokS c 23 (i*3)) (some b5) trivial (Weak.sub ⟨λq hq=>by(simp[tokS]at hq;subst hq;simp),λ_=>by simp[Store.keys,tokS]⟩) (by omega) (λi z r c hok hx hw=>?_) (λc hok hn=>?_)
    ·have hi:=hx.lt
     clear hne hnx hblk
     (repeat' (first|simp only[EVz,seval,↓reduceIte,EV6,EV7,hx.yes,hx.le0,hx.lt',hx.row,hw,hx.get,hne]|(with_reducible intro blk hblk;(try(have hnx:=hblk;simp only[EVK]at hnx;(have hne:=hnx))))|fail))
     refine cV (n:=i) (m':=(i+1)*3) bI (by rw[length_map,length_take];omega) rfl rfl rfl (by assumption) (by omega) (λgn=>?_)
     refine af hx gn trivial ?_
     simp only[hx.take,map_append,map_cons,map_nil]
     exact Weak.rfl' _ _
    ·(repeat' (simp only[EVz,seval,↓reduceIte,EV6,EV7,hn,hne]))
     exact hR _ _ (Or.inl (Or.inr ⟨rfl,by rw[take_length];unfold U.ids;rw[map_map];rfl⟩))
   ·rw[if_neg h1]
    have e2:decide (d.it.kind≠1)=true:=decide_eq_true h1
    unfold Dd.cs at hA ⊢
    rw[Itm.cs_eq]at hA ⊢
    rw[U.cs_eq d.it.unit]at hSt
    rw[hcs]at hF hO hA ⊢
    refine Pure.w c28 λR hR=>?_
    unfold s28 r28
    (repeat' (first|(with_reducible first|refine ab hA ?_|refine ab hSt ?_|refine ab hO ?_|refine ab hF ?_)|simp only[EVz,seval,↓reduceIte,EV6,EV7,e1,e2,hne]|simp only[EVz,seval,↓reduceIte,EV6,EV7,e1,e2]|(with_reducible intro blk hblk;(try(have hnx:=hblk;simp only[EVK]at hnx;first|(have hne:=AI hnx hne)|(have hne:=hnx))))|(refine⟨[],rfl,(by simp),rfl,?_⟩)|(refine⟨[[.int .i64 i.act,.int .i64 i.item,.int .i64 i.n]],rfl,(by simp),rfl,?_⟩)|fail))
    all_goals exact hR _ _ (.inl (.inr ⟨rfl,rfl⟩))
 ·simp only at hA ⊢
  rw[if_pos he]
  unfold Dd.cs at hA ⊢
  rw[Itm.cs_eq]at hA ⊢
  clear hdid
  refine Pure.w c28 λR hR=>?_
  unfold s28 r28
  have e1:decide (e≠0)=true:=decide_eq_true he
  (repeat' (first|(with_reducible refine ab hA ?_)|simp only[EVz,seval,↓reduceIte,EV6,EV7,e1,hne]|simp only[EVz,seval,↓reduceIte,EV6,EV7,e1]|(with_reducible intro blk hblk;(try(have hnx:=hblk;simp only[EVK]at hnx;first|(have hne:=AI hnx hne)|(have hne:=hnx))))|(refine⟨[],rfl,(by simp),rfl,?_⟩)|fail))
  all_goals exact hR _ _ (.inl (.inr ⟨rfl,rfl⟩))
end
section
variable (G:Glob) (hG:GOk G)
include hG
set_option maxHeartbeats 8000000 in
theorem f8 (u:U) (hfit:u.fit) (d:Dd) (hb:d.it.big):Pure G Tryz.prog 8 [.agg u.cs,.agg d.cs] (.bool true):=by
 have hAw:=f10 G hG
 have hB:=f11 G hG u 60 hfit (by omega) (by omega)
 have hF:=f12 G [d] (by simp) (λx hx=>by simp only[mem_singleton]at hx;subst hx;exact hb)
 rw[oz]at hF
 simp only[map_cons,map_nil]at hF
 have hds:d.cs.length=28:=by unfold Dd.cs;simp[Itm.cs_len]
 cases h1:dV u 60 with
 |false=>
  rw[h1]at hB
  unfold Dd.cs
  rw[Itm.cs_eq]
  refine Pure.w c8 λR hR=>?_
  unfold s8 r8
  (repeat' (first|(with_reducible first|refine ab hAw ?_|refine ab hB ?_)|simp only[EVz,seval,↓reduceIte,EV6,EV7]|fail))
  all_goals exact RQ hR
 |true=>
  rw[h1]at hB
  cases h2:d.it.little with
  |false=>
   rw[h2]at hF
   unfold Dd.cs at hF hds ⊢
   rw[Itm.cs_eq]at hF hds ⊢
   refine Pure.w c8 λR hR=>?_
   unfold s8 r8
   (repeat' (first|(with_reducible first|refine ab hAw ?_|refine ab hB ?_)|simp only[EVz,seval,↓reduceIte,EV6,EV7,hne]|simp only[EVz,seval,↓reduceIte,EV6,EV7]|(with_reducible intro blk hblk;(try(have hnx:=hblk;simp only[EVK]at hnx;(have hne:=hnx))))|(refine⟨[_],rfl,(by intro r hr;simp only[mem_singleton]at hr;subst hr;exact hds),rfl,?_⟩)|(refine aC hF ⟨.inl (.inr ⟨rfl,rfl⟩),trivial⟩ ?_)|fail))
   all_goals exact RQ hR
  |true=>
   rw[h2]at hF
   have hg:=fM h1
   have hsh:=ej d.it hb h2
   have hAf:=f25 G hG u hg d hsh
   have hC:=f26 G hG d hsh
   have hE:=f28 G u hg d hsh
   have hll:(aff u d).length<1000000000:=by
    have hx:=nb hg d
    unfold aff
    split
    ·simp
    ·next he=>
     have he:(doP u d).2=0:=by simpa using he
     split
     ·next h0=>
      have hm:=(hx he).1
      have h3:=(dW d.it.unit d.act d.item (fh hm h0)).2.2.1
      have h4:=gH hm h0
      unfold U.ids
      rw[length_map,h3];omega
     ·split
      ·have ho:=(hx he).2.2.1
       have hi:=bU (u:=u) (p:=d.it.at_) ho
       have h5:=(hg.short.node (aM u hg.nd hi)).1.2
       unfold U.ids
       rw[length_map];omega
      ·simp
   have hIds:=f27 G (aff u d) hll
   have hno:(chg d.it.kind&&d.it.may)=false->aff u d=[]:=by
    intro h
    unfold aff
    rw[if_pos]
    have e:doR u d=(u,1):=by
     unfold doR
     rw[if_pos]
     rw[Bool.and_eq_false_iff]at h
     exact h
    rw[←jk hg,e]
    simp
   generalize aff u d=L at*
   cases h3:(chg d.it.kind&&d.it.may)with
   |false=>
    rw[h3]at hC
    obtain rfl:=hno h3
    simp only[map_nil]at hAf
    unfold Dd.cs at hF hds hAf hC ⊢
    rw[Itm.cs_eq]at hF hds hAf hC ⊢
    refine Pure.w c8 λR hR=>?_
    unfold s8 r8
    (repeat' (first|(with_reducible first|refine ab hAw ?_|refine ab hB ?_|refine ab hAf ?_|refine ab hC ?_)|simp only[EVz,seval,↓reduceIte,EV6,EV7,hne]|simp only[EVz,seval,↓reduceIte,EV6,EV7]|(with_reducible intro blk hblk;(try(have hnx:=hblk;simp only[EVK]at hnx;(have hne:=hnx))))|(refine⟨[_],rfl,(by intro r hr;simp only[mem_singleton]at hr;subst hr;exact hds),rfl,?_⟩)|(refine aC hF ⟨.inl (.inr ⟨rfl,rfl⟩),trivial⟩ ?_)|fail))
    all_goals exact RQ hR
   |true=>
    rw[h3]at hC
    unfold Dd.cs at hF hds hAf hC hE ⊢
    rw[Itm.cs_eq]at hF hds hAf hC hE ⊢
    refine Pure.w c8 λR hR=>?_
    unfold s8 r8
    (repeat' (first|(with_reducible first|refine ab hAw ?_|refine ab hB ?_|refine ab hAf ?_|refine ab hC ?_|refine ab hE ?_|refine ab hIds ?_)|simp only[EVz,seval,↓reduceIte,EV6,EV7,hne]|simp only[EVz,seval,↓reduceIte,EV6,EV7]|(with_reducible intro blk hblk;(try(have hnx:=hblk;simp only[EVK]at hnx;(have hne:=hnx))))|(refine⟨[_],rfl,(by intro r hr;simp only[mem_singleton]at hr;subst hr;exact hds),rfl,?_⟩)|(refine aC hF ⟨.inl (.inr ⟨rfl,rfl⟩),trivial⟩ ?_)|fail))
    all_goals exact RQ hR
end
end Go.Av
