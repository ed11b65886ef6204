/-
  ENACT, M38: arbitrary items, by the document.
-/
import Derived.Test.YtcecmifknojgeaaGreatDoorXM35toXM37
import Derived.Test.YtcecmifknojgeaaGreatDoorXM32toXE17
namespace Go.Av
open Go Go.RowKit Go.Proofs List
set_option linter.unusedSimpArgs false
set_option linter.unusedVariables false
section
variable (G:Glob) (hG:GOk G)
include hG
theorem f26 (d:Dd) (hs:d.it.Shorts):Pure G Tryz.prog 26 [.agg d.cs] (.bool (chg d.it.kind&&d.it.may)):=by
 have hC:=f42 G d.it.kind
 have hV:=f38 G hG d.it hs
 unfold Dd.cs
 rw[Itm.cs_eq]at hV ⊢
 refine Pure.w c26 λR hR=>?_
 unfold s26 r26
 cases h1:chg d.it.kind with
 |false=>
  rw[h1]at hC hR
  (repeat' (first|(with_reducible refine ab hC ?_)|simp only[EVz,seval,↓reduceIte,EV6,EV7]|fail))
  all_goals exact RQ hR
 |true=>
  rw[h1]at hC hR
  rw[Bool.true_and]at hR
  (repeat' (first|(with_reducible first|refine ab hC ?_|refine ab hV ?_)|simp only[EVz,seval,↓reduceIte,EV6,EV7]|fail))
  all_goals exact RQ hR
theorem f15 (u:U) (hu:Good u) (d:Dd) (hs:d.it.Shorts):Pure G Tryz.prog 15 [.agg u.cs,.agg d.cs] (aQ (doR u d)):=by
 have hC:=f26 G hG d hs
 have hD:=f40 G u hu d hs
 cases h1:(chg d.it.kind&&d.it.may)with
 |false=>
  have e:doR u d=(u,1):=by
   unfold doR
   rw[if_pos]
   rw[Bool.and_eq_false_iff]at h1
   exact h1
  rw[h1]at hC
  rw[e]
  unfold aQ
  simp only
  unfold Dd.cs at hC ⊢
  rw[Itm.cs_eq]at hC ⊢
  rw[U.cs_eq u]
  refine Pure.w c15 λR hR=>?_
  unfold s15 r15
  (repeat' (first|(with_reducible refine ab hC ?_)|simp only[EVz,seval,↓reduceIte,EV6,EV7,hne]|simp only[EVz,seval,↓reduceIte,EV6,EV7]|(with_reducible intro blk hblk;(try(have hnx:=hblk;simp only[EVK]at hnx;(have hne:=hnx))))|fail))
  all_goals exact RQ hR
 |true=>
  rw[h1]at hC
  unfold aQ at hD ⊢
  unfold Dd.cs at hC hD ⊢
  rw[Itm.cs_eq]at hC hD ⊢
  rw[U.cs_eq u]at hD ⊢
  refine Pure.w c15 λR hR=>?_
  unfold s15 r15
  (repeat' (first|(with_reducible first|refine ab hC ?_|refine ab hD ?_)|simp only[EVz,seval,↓reduceIte,EV6,EV7,hne]|simp only[EVz,seval,↓reduceIte,EV6,EV7]|(with_reducible intro blk hblk;(try(have hnx:=hblk;simp only[EVK]at hnx;(have hne:=hnx))))|fail))
  all_goals exact RQ hR
set_option maxHeartbeats 4000000 in
theorem f18 (u:U) (hu:Good u) (l:List Dd) (hl:l.length<1000000) (hs:∀d∈l,d.it.Shorts):Pure G Tryz.prog 18 [.agg u.cs,.lst 28 (l.map Dd.cs)] (jc (allR u l)):=by
 refine Pure.w c18 λR hR=>?_
 unfold s18 r18
 unfold jc at hR
 (repeat' (first|simp only[EVz,seval,↓reduceIte,EV6,EV7]|(with_reducible intro blk hblk;(try(have hnx:=hblk;simp only[EVK]at hnx;first|(have hne:=AI hnx hne)|(have hne:=hnx))))|(refine⟨[],rfl,(by simp),rfl,?_⟩)|fail))
 rename_i b2 _ _ _ b4 _ _ _
 generalize hbe:blk=b6 at*
 obtain⟨⟨q2,q3⟩,q1,_⟩:=hne
 have q1':¬b2=b4:=λe=>q1 e.symm
 have q2':¬b4=b6:=λe=>q2 e.symm
 have q3':¬b2=b6:=λe=>q3 e.symm
 refine Zq (ι:=U×List Ms×Option Nat) l (λi r c=>Good c.1/\allR u l=((allR c.1 r).1,c.2.1++(allR c.1 r).2)/\c.2.1.length<=i/\(∀d,c.2.2=some d->d∉Store.keys [(b4,AObj.cells 27 zU),(b2,.cells 27 zU)])) (λi c=>[(1,.lst 28 (l.map Dd.cs)),(2,.sc (.pointer (some ⟨b2,0,none⟩))),(4,.sc (.pointer (some ⟨b4,0,none⟩))),(6,.own c.2.2 91 3 (c.2.1.map Ms.cs)),(7,.int .i64 i)]) (λi c=>[(b4,.cells 27 zU),(b2,.cells 27 c.1.cs)]++tokS c.2.2 91 (c.2.1.length*3)) (u,[],some b6) ⟨hu,by simp,by simp,by simp[Store.keys,q2,q3]⟩ (Weak.sub ⟨λq hq=>by(simp[tokS]at hq;rcases hq with rfl|rfl|rfl<;>simp[zU]),λ_=>by(simp[Store.keys,tokS,q1,q2',q3'])⟩) (by omega) (λi x r c hok hx hw=>?_) (λc hok hn=>?_)
 ·obtain⟨o1,o2,o3,o4⟩:=hok
  have hI:=f42 G x.it.kind
  have hA:=f15 G hG c.1 o1 x (hs x hx.mem)
  have hst:=fJ o1 x
  have hil:=hx.lt
  have est:gu c.1 x=dJ c.1 x:=by unfold gu dJ;rw[jk o1]
  have o2':=o2
  rw[show ∀a (r:List Dd),allR a (x::r)=((allR (gu a x).1 r).1,(gu a x).2++(allR (gu a x).1 r).2)from λ_ _=>rfl]at o2
  unfold aQ at hA
  rw[←est]at hst
  unfold gu at o2 hst
  clear hbe hblk hnx hne o2' est
  cases hc:chg x.it.kind with
  |false=>
   rw[hc]at hI
   rw[hc,if_pos rfl]at o2 hst
   (repeat' (first|(with_reducible refine ab hI ?_)|simp only[EVz,seval,↓reduceIte,EV6,EV7,hx.yes,hx.le0,hx.lt',hx.get,hx.row,hw,Dd.cs,Itm.cs_eq,hne]|fail))
   exact af hx c ⟨o1,by simpa using o2,by omega,o4⟩ (Weak.sub (SubN.refl _))
  |true=>
   rw[hc]at hI
   rw[hc,if_neg (by simp)]at o2 hst
   obtain⟨⟨v,e⟩,hve⟩:∃z,doR c.1 x=z:=⟨_,rfl⟩
   rw[hve]at hA o2 hst
   unfold lu at o2 hst
   simp only[Dd.cs,Itm.cs_eq]at hA
   rcases Classical.em (e=0)with he|he
   ·subst he
    (repeat' (first|(with_reducible first|refine ab hI ?_|refine ab hA ?_)|simp only[EVz,seval,↓reduceIte,EV6,EV7,hx.yes,hx.le0,hx.lt',hx.get,hx.row,hw,Dd.cs,Itm.cs_eq,q1,q1',hne]|(with_reducible intro blk hblk;(try(have hnx:=hblk;simp only[EVK]at hnx;(have hne:=AI hnx hne))))|(with_reducible refine ak ?_ ?_)|(with_reducible refine am ?_)|fail))
    all_goals exact af hx (v,c.2.1,c.2.2) ⟨hst.1,by simpa using o2,Nat.le_succ_of_le o3,o4⟩ (Weak.sub (SubN.tail (SubN.refl _) _))
   ·(repeat' (first|(with_reducible (refine ae (λh=>?_) (λh=>?_))<;>(try simp only[Da,Db,Dc,Dw,De,Df,Dg,Dh]at h))|(with_reducible first|refine ab hI ?_|refine ab hA ?_)|simp only[EVz,seval,↓reduceIte,EV6,EV7,hx.yes,hx.le0,hx.lt',hx.get,hx.row,hw,Dd.cs,Itm.cs_eq,he,q1,q1',hne]|(with_reducible intro blk hblk;(try(have hnx:=hblk;simp only[EVK]at hnx;(have hne:=AI hnx hne))))|(with_reducible refine ak ?_ ?_)|(with_reducible refine am ?_)|(exfalso;omega)|fail))
    all_goals
     rename_i b8 _ _ _
     obtain⟨n1,n2,_⟩:=hne
     have hm3:∀d,c.2.2=some d->d∈(tokS c.2.2 91 (c.2.1.length*3)).keys:=by
      intro d hd
      rw[hd]
      simp[tokS,Store.keys]
     refine⟨[Ms.cs ⟨x.act,x.item,e⟩],rfl,by simp[Ms.cs],by simp[Ms.cs],?_⟩
     refine jH (sz:=3) (bytes:=24) (rows:=c.2.1.map Ms.cs) (ys:=[Ms.cs ⟨x.act,x.item,e⟩]) (m:=c.2.1.length*3) [(blk,_)] [(b8,_),(b4,_),(b2,_)] ?_ ?_ (by rw[length_map]) ?_ (by rw[length_map];simp;omega) (λgn hgn=>?_)
     ·intro p hp
      simp only[mem_singleton]at hp
      subst hp
      simp[Store.keys,n1]
      simpa[Store.keys]using n1.2.2.2
     ·intro d hd
      have h1:=hm3 d hd
      have h2:=o4 d hd
      simp[Store.keys]at h2 ⊢
      refine⟨λq=>n2.2.2 (q ▸ h1),h2.1,h2.2⟩
     ·simp[Store.keys,n2,q1]
     (repeat' (first|simp only[EVz,seval,↓reduceIte,EV6,EV7,n1,n2,q1,q1',hw,hne]|(with_reducible refine am ?_)|fail))
     refine af hx (v,c.2.1++[⟨x.act,x.item,e⟩],gn) ⟨hst.1,by simpa[he]using o2,?_,?_⟩ ?_
     ·rw[length_append];exact Nat.succ_le_succ o3
     ·intro d hd
      have:=hgn d hd
      simp[Store.keys]at this ⊢
      exact⟨this.2.1,this.2.2⟩
     ·simp only[map_append,map_cons,map_nil,length_append,length_map,length_cons,length_nil]
      exact Weak.sub (SubN.tail (SubN.refl _) _)
 ·(repeat' (simp only[EVz,seval,↓reduceIte,EV6,EV7,hn,hne]))
  obtain⟨o1,o2,o3,o4⟩:=hok
  simp only[allR,append_nil]at o2
  rw[o2]at hR
  exact hR _ _ (.inr ⟨aP.rfl' _,.inr ⟨rfl,rfl⟩,trivial⟩)
end
theorem oz (d:Dd):fewB [d]=d.it.little:=by unfold fewB;simp
section
variable (G:Glob) (hG:GOk G)
include hG
set_option maxHeartbeats 8000000 in
theorem f3 (u:U) (hfit:u.fit) (d:Dd) (hb:d.it.big):Pure G Tryz.prog 3 [.agg u.cs,.agg d.cs] (.bool true):=by
 have hAw:=f10 G hG
 have hB:=f11 G hG u 60 hfit (by omega) (by omega)
 have hF:=f12 G [d] (by simp) (λx hx=>by simp only[mem_singleton]at hx;subst hx;exact hb)
 rw[oz]at hF
 simp only[map_cons,map_nil]at hF
 have hds:d.cs.length=28:=by unfold Dd.cs;simp[Itm.cs_len]
 cases h1:dV u 60 with
 |false=>
  rw[h1]at hB
  unfold Dd.cs
  rw[Itm.cs_eq]
  refine Pure.w c3 λR hR=>?_
  unfold s3 r3
  (repeat' (first|(with_reducible first|refine ab hAw ?_|refine ab hB ?_)|simp only[EVz,seval,↓reduceIte,EV6,EV7]|fail))
  all_goals exact RQ hR
 |true=>
  rw[h1]at hB
  cases h2:d.it.little with
  |false=>
   rw[h2]at hF
   unfold Dd.cs at hF hds ⊢
   rw[Itm.cs_eq]at hF hds ⊢
   refine Pure.w c3 λR hR=>?_
   unfold s3 r3
   (repeat' (first|(with_reducible first|refine ab hAw ?_|refine ab hB ?_)|simp only[EVz,seval,↓reduceIte,EV6,EV7,hne]|simp only[EVz,seval,↓reduceIte,EV6,EV7]|(with_reducible intro blk hblk;(try(have hnx:=hblk;simp only[EVK]at hnx;(have hne:=hnx))))|(refine⟨[_],rfl,(by intro r hr;simp only[mem_singleton]at hr;subst hr;exact hds),rfl,?_⟩)|(refine aC hF ⟨.inl (.inr ⟨rfl,rfl⟩),trivial⟩ ?_)|fail))
   all_goals exact RQ hR
  |true=>
   rw[h2]at hF
   have hg:=fM h1
   have hsh:=ej d.it hb h2
   have hA:=f14 G hG u hg d hsh
   have hD:=f15 G hG u hg d hsh
   have hgv:=(m9 hg d).1
   rw[jk hg]at hD
   unfold aQ at hA hD
   obtain⟨⟨v,e⟩,hve⟩:∃z,doP u d=z:=⟨_,rfl⟩
   rw[hve]at hA hD hgv
   simp only at hA hD hgv
   have hSm:=f16 G v hgv.short
   have hSt:=f13 G u 1 1 hg.short (by have h1:=wt_le hg.node;have h2:=hg.cnt;omega)
   obtain⟨_,_,t3,_,t5⟩:=dW u 1 1 hg.node
   have hxs:(stampU u 1 1).Short:=cf t5 (by rw[t3];have:=hg.cnt;omega)
   have hS2:=f16 G (stampU u 1 1) hxs
   have e0:decide (e=e)=true:=decide_eq_true rfl
   unfold Dd.cs at hF hds hA hD ⊢
   rw[Itm.cs_eq]at hF hds hA hD ⊢
   refine Pure.w c3 λR hR=>?_
   unfold s3 r3
   (repeat' (first|(with_reducible first|refine ab hAw ?_|refine ab hB ?_|refine ab hA ?_|refine ab hD ?_|refine ab hSm ?_|refine ab hSt ?_|refine ab hS2 ?_)|simp only[EVz,seval,↓reduceIte,EV6,EV7,e0,hne]|simp only[EVz,seval,↓reduceIte,EV6,EV7,e0]|(with_reducible intro blk hblk;(try(have hnx:=hblk;simp only[EVK]at hnx;first|(have hne:=AI hnx hne)|(have hne:=hnx))))|(with_reducible refine ak ?_ ?_)|(with_reducible refine am ?_)|(refine⟨[_],rfl,(by intro r hr;simp only[mem_singleton]at hr;subst hr;exact hds),rfl,?_⟩)|(refine aC hF ⟨.inl (.inr ⟨rfl,rfl⟩),trivial⟩ ?_)|fail))
   all_goals exact RQ hR
set_option maxHeartbeats 8000000 in
theorem f4 (u:U) (hfit:u.fit) (l:List Dd) (hl:l.length<1000000000000000000) (hb:∀d∈l,d.it.big):Pure G Tryz.prog 4 [.agg u.cs,.lst 28 (l.map Dd.cs)] (.bool true):=by
 have hAw:=f10 G hG
 have hB:=f11 G hG u 60 hfit (by omega) (by omega)
 have hF:=f12 G l hl hb
 refine Pure.w c4 λR hR=>?_
 unfold s4 r4
 cases h1:dV u 60 with
 |false=>
  rw[h1]at hB
  (repeat' (first|(with_reducible first|refine ab hAw ?_|refine ab hB ?_)|simp only[EVz,seval,↓reduceIte,EV6,EV7]|fail))
  all_goals exact RQ hR
 |true=>
  rw[h1]at hB
  cases h2:fewB l with
  |false=>
   rw[h2]at hF
   (repeat' (first|(with_reducible first|refine ab hAw ?_|refine ab hB ?_|refine ab hF ?_)|simp only[EVz,seval,↓reduceIte,EV6,EV7]|fail))
   all_goals exact RQ hR
  |true=>
   rw[h2]at hF
   have hg:=fM h1
   obtain⟨f1,f2⟩:=lv h2
   have hsh:=λd hd=>ej d.it (hb d hd) (f1 d hd)
   have hA:=f17 G hG u hg l (by omega) hsh
   have hD:=f18 G hG u hg l (by omega) hsh
   rw[kN hg]at hD
   have hgv:=(iR (l:=l) hg).1
   have hml:=m8 l u
   unfold jc at hA hD
   obtain⟨⟨v,m⟩,hvm⟩:∃z,allP u l=z:=⟨_,rfl⟩
   rw[hvm]at hA hD hgv hml
   simp only at hA hD hgv hml
   have hSm:=f16 G v hgv.short
   have hMi:=f19 G m (by omega)
   (repeat' (first|(with_reducible first|refine ab hAw ?_|refine ab hB ?_|refine ab hF ?_|refine ab hA ?_|refine ab hD ?_|refine ab hSm ?_|refine ab hMi ?_)|simp only[EVz,seval,↓reduceIte,EV6,EV7,hne]|simp only[EVz,seval,↓reduceIte,EV6,EV7]|(with_reducible intro blk hblk;(try(have hnx:=hblk;simp only[EVK]at hnx;first|(have hne:=AI hnx hne)|(have hne:=hnx))))|fail))
   all_goals exact RQ hR
end
end Go.Av
