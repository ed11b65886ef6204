/-
  ENACT, M27: a unit taken out; words, heading and label changed.
-/
import Derived.Test.YtcecmifknojgeaaGreatDoorXM25toXM20
import Derived.Test.YtcecmifknojgeaaGreatDoorXL34toXM2
namespace Go.Av
open Go Go.RowKit Go.Proofs List
set_option linter.unusedSimpArgs false
set_option linter.unusedVariables false
theorem er {u:U} (h:Good u) (i:Idd) (q:U×Nat×Nat) (e:aN i u=some q):q.2.2<q.1.kids.length/\q.1.kids.length<=64/\Par i u q.1 q.2.1 q.2.2:=by
 by_cases hi:i∈u.ids
 ·obtain⟨p,d,j⟩:=q
  have hp:=eW u h.nd hi e
  obtain⟨a,k,b,s,_,hj,_⟩:=hp.split
  have hm:=aM u h.nd hp.mem
  rw[hp.fnd]at hm
  refine⟨?_,cl (h.node p hm),hp⟩
  show j<p.kids.length
  rw[s.eq,hj,length_append,length_cons];omega
 ·unfold aN at e
  rw[(dI u).2 hi]at e
  simp at e
theorem good_hk {u:U} (h:Good u):∀i q,aN i u=some q->q.2.2<1000000:=λi q e=>by
 obtain⟨h1,h2,_⟩:=er h i q e
 omega
theorem mY {u:U} (h:Good u) (i:Idd):(fnd i u).kids.length<=64:=by
 by_cases hi:i∈u.ids
 ·exact cl (h.node _ (aM u h.nd hi))
 ·unfold fnd
  rw[(dI u).2 hi]
  simp[noU]
theorem nW {u:U} (h:Good u):∀i w q,spot u i w=some q->q.2<1000000:=λi w q e=>by
 unfold spot at e
 split at e
 ·injection e with e;subst e;simp
 ·split at e
  ·injection e with e;subst e
   have:=mY h i
   simp only;omega
  ·cases hw:aN i u with
   |none=>rw[hw]at e;cases e
   |some r=>
    rw[hw]at e
    obtain⟨h1,h2,_⟩:=er h i r hw
    injection e with e;subst e
    simp only
    split<;>omega
section
variable (G:Glob)
theorem f97 (u:U) (hu:Good u) (i:Idd) (hi:i∈u.ids) (hne0:u.id≠i):Pure G Tryz.prog 97 [.agg u.cs,.agg i.cs] (.agg (without i u).cs):=by
 have hs:=hu.short
 obtain⟨p,d,j,e1,e2,e3⟩:=aW hu.nd hi hne0
 obtain⟨hj,hk64,_⟩:=er hu i _ e1
 simp only at hj hk64
 have hP:=f104 G i u hs hu.nd
 unfold km at hP
 rw[e1]at hP
 have hW:=λbn=>f94 G _ _ _ p.id u hs hu.nd e3.mem (by rw[e3.fnd];exact d171 G bn j p hj (by omega))
 have hwo:without i u=U.wth p.id (λy=>{y with kids:=aL y.kids j}) u:=by unfold without;rw[e1]
 rw[hwo]
 simp only[Idd.cs]at hP hW
 refine Pure.w c97 λR hR=>?_
 unfold s97 r97
 (repeat' (first|(with_reducible refine ab hP ?_)|simp only[EVz,seval,↓reduceIte,EV6,EV7,hne]|simp only[EVz,seval,↓reduceIte,EV6,EV7]|(with_reducible intro blk hblk;(try(have hnx:=hblk;simp only[EVK]at hnx;first|(have hne:=AI hnx hne)|(have hne:=hnx))))|(refine bL [(blk,_)] [(_,_),(_,_)] (hW blk).v (aB.rfl' _) (SubN.refl _) (λr1 σ1 hr hnd2=>?_))|(obtain⟨rfl,rfl⟩:=hr)|(refine⟨_,SubN.refl _,?_⟩)|fail))
 all_goals exact RQ hR
theorem f60 (u:U) (hu:Good u) (x:U) (hi:x.id∈u.ids) (hne0:u.id≠x.id) (d:Dd):Pure G Tryz.prog 60 [.agg u.cs,.agg x.cs,.agg d.cs] (aQ (without x.id u,0)):=by
 have hW:=f97 G u hu x.id hi hne0
 simp only[Idd.cs]at hW
 unfold Dd.cs
 rw[U.cs_eq x,Itm.cs_eq]
 refine Pure.w c60 λR hR=>?_
 unfold s60 r60
 (repeat' (first|(with_reducible refine ab hW ?_)|simp only[EVz,seval,↓reduceIte,EV6,EV7,hne]|simp only[EVz,seval,↓reduceIte,EV6,EV7]|(with_reducible intro blk hblk;(try(have hnx:=hblk;simp only[EVK]at hnx;(have hne:=hnx))))|fail))
 all_goals exact RQ hR
theorem f61 (u:U) (hu:Good u) (x:U) (hi:x.id∈u.ids) (d:Dd) (hw:x.words.length<=256) (hk:d.it.kind=2) (ho:d.it.old≠[]) (hol:d.it.old.length<=256) (hnl:d.it.new.length<=256) (hn:0<=d.it.nth/\d.it.nth<=256):
  Pure G Tryz.prog 61 [.agg u.cs,.agg x.cs,.agg d.cs] (aQ (if (editE x.words d.it d.act d.item).2≠0 then (u,(editE x.words d.it d.act d.item).2)else (U.wth x.id (λy=>{y with words:=(editE x.words d.it d.act d.item).1}) u,0))):=by
 have hs:=hu.short
 have hE:=f98 G x.words d.it d.act d.item hw hk ho hol hnl hn
 unfold fA at hE
 obtain⟨⟨w,e⟩,hwe⟩:∃q,editE x.words d.it d.act d.item=q:=⟨_,rfl⟩
 rw[hwe]at hE ⊢
 have hW:=λbw=>f94 G _ _ _ x.id u hs hu.nd hi (d99 G bw w _)
 simp only[Idd.cs]at hW hE
 unfold Dd.cs
 rw[U.cs_eq x,Itm.cs_eq]
 refine Pure.w c61 λR hR=>?_
 unfold s61 r61
 simp only at hR
 rcases Classical.em (e=0)with h|h
 ·subst h
  rw[if_neg (by simp)]at hR
  (repeat' (first|(with_reducible refine ab hE ?_)|simp only[EVz,seval,↓reduceIte,EV6,EV7,hne]|simp only[EVz,seval,↓reduceIte,EV6,EV7]|(with_reducible intro blk hblk;(try(have hnx:=hblk;simp only[EVK]at hnx;first|(have hne:=AI hnx hne)|(have hne:=hnx))))|(refine bL [(blk,_)] [(_,_)] (hW blk).v (aB.rfl' _) (SubN.refl _) (λr1 σ1 hr hnd2=>?_))|(obtain⟨rfl,rfl⟩:=hr)|(refine⟨_,SubN.refl _,?_⟩)|fail))
  all_goals exact RQ hR
 ·rw[if_pos h]at hR
  (repeat' (first|(with_reducible (refine ae (λh=>?_) (λh=>?_))<;>(try simp only[Da,Db,Dc,Dw,De,Df,Dg,Dh]at h))|(with_reducible refine ab hE ?_)|simp only[EVz,seval,↓reduceIte,EV6,EV7,h,hne]|simp only[EVz,seval,↓reduceIte,EV6,EV7,h]|(with_reducible intro blk hblk;(try(have hnx:=hblk;simp only[EVK]at hnx;first|(have hne:=AI hnx hne)|(have hne:=hnx))))|(exfalso;omega)|fail))
  all_goals exact RQ hR
theorem f62 (u:U) (hu:Good u) (x:U) (hi:x.id∈u.ids) (d:Dd) (hw:x.words.length<=256) (hk:d.it.kind=3) (hol:d.it.old.length<=256) (hnl:d.it.new.length<=256) (hn1:1<=d.it.new.length) (hn:0<=d.it.nth/\d.it.nth<=256) (h0n:d.it.old=[]->d.it.nth=0):
  Pure G Tryz.prog 62 [.agg u.cs,.agg x.cs,.agg d.cs] (aQ (if (editE x.words d.it d.act d.item).2≠0 then (u,(editE x.words d.it d.act d.item).2)else (U.wth x.id (λy=>{y with words:=(editE x.words d.it d.act d.item).1}) u,0))):=by
 have hs:=hu.short
 have hE:=f100 G x.words d.it d.act d.item hw hk hol hnl hn1 hn h0n
 unfold fA at hE
 obtain⟨⟨w,e⟩,hwe⟩:∃q,editE x.words d.it d.act d.item=q:=⟨_,rfl⟩
 rw[hwe]at hE ⊢
 have hW:=λbw=>f94 G _ _ _ x.id u hs hu.nd hi (d101 G bw w _)
 simp only[Idd.cs]at hW hE
 unfold Dd.cs
 rw[U.cs_eq x,Itm.cs_eq]
 refine Pure.w c62 λR hR=>?_
 unfold s62 r62
 simp only at hR
 rcases Classical.em (e=0)with h|h
 ·subst h
  rw[if_neg (by simp)]at hR
  (repeat' (first|(with_reducible refine ab hE ?_)|simp only[EVz,seval,↓reduceIte,EV6,EV7,hne]|simp only[EVz,seval,↓reduceIte,EV6,EV7]|(with_reducible intro blk hblk;(try(have hnx:=hblk;simp only[EVK]at hnx;first|(have hne:=AI hnx hne)|(have hne:=hnx))))|(refine bL [(blk,_)] [(_,_)] (hW blk).v (aB.rfl' _) (SubN.refl _) (λr1 σ1 hr hnd2=>?_))|(obtain⟨rfl,rfl⟩:=hr)|(refine⟨_,SubN.refl _,?_⟩)|fail))
  all_goals exact RQ hR
 ·rw[if_pos h]at hR
  (repeat' (first|(with_reducible (refine ae (λh=>?_) (λh=>?_))<;>(try simp only[Da,Db,Dc,Dw,De,Df,Dg,Dh]at h))|(with_reducible refine ab hE ?_)|simp only[EVz,seval,↓reduceIte,EV6,EV7,h,hne]|simp only[EVz,seval,↓reduceIte,EV6,EV7,h]|(with_reducible intro blk hblk;(try(have hnx:=hblk;simp only[EVK]at hnx;first|(have hne:=AI hnx hne)|(have hne:=hnx))))|(exfalso;omega)|fail))
  all_goals exact RQ hR
theorem f63 (u:U) (hu:Good u) (x:U) (hi:x.id∈u.ids) (d:Dd) (hnl:d.it.new.length<=256):
  Pure G Tryz.prog 63 [.agg u.cs,.agg x.cs,.agg d.cs] (aQ (U.wth x.id (λy=>{y with head:=markW d.act d.item d.it.new 0}) u,0)):=by
 have hs:=hu.short
 have hE:=f102 G d.it.new d.act d.item 0 (by omega) (by omega) (by omega)
 obtain⟨w,hwe⟩:∃q,markW d.act d.item d.it.new 0=q:=⟨_,rfl⟩
 rw[hwe]at hE ⊢
 have hW:=λbw=>f94 G _ _ _ x.id u hs hu.nd hi (d103 G bw w _)
 simp only[Idd.cs]at hW hE
 unfold Dd.cs
 rw[U.cs_eq x,Itm.cs_eq]
 refine Pure.w c63 λR hR=>?_
 unfold s63 r63
 (repeat' (first|(with_reducible refine ab hE ?_)|simp only[EVz,seval,↓reduceIte,EV6,EV7,hne]|simp only[EVz,seval,↓reduceIte,EV6,EV7]|(with_reducible intro blk hblk;(try(have hnx:=hblk;simp only[EVK]at hnx;first|(have hne:=AI hnx hne)|(have hne:=hnx))))|(refine bL [(blk,_)] [(_,_)] (hW blk).v (aB.rfl' _) (SubN.refl _) (λr1 σ1 hr hnd2=>?_))|(obtain⟨rfl,rfl⟩:=hr)|(refine⟨_,SubN.refl _,?_⟩)|fail))
 all_goals exact RQ hR
variable (hG:GOk G)
include hG
theorem f64 (u:U) (hu:Good u) (x:U) (hx:x=fnd x.id u) (hi:x.id∈u.ids) (hne0:u.id≠x.id) (d:Dd):
  Pure G Tryz.prog 64 [.agg u.cs,.agg x.cs,.agg d.cs] (aQ (if bJ (parR x.id u).1 (parR x.id u).1.kids {x with label:=d.it.label}=10 then (u,10)else (U.wth x.id (λy=>{y with label:=d.it.label}) u,0))):=by
 have hs:=hu.short
 obtain⟨p,dd,j,e1,e2,e3⟩:=aW hu.nd hi hne0
 obtain⟨hj,hk64,_⟩:=er hu _ _ e1
 simp only at hj hk64
 have hP:=f104 G x.id u hs hu.nd
 unfold km at hP
 rw[e1]at hP
 have hF:=f31 G p.id u hs
 unfold i8 at hF
 rw[gf e3.mem,if_neg (by simp),e3.fnd]at hF
 have hT:=f89 G hG p {x with label:=d.it.label} (by omega)
 have hW:=λbd=>f94 G _ _ _ x.id u hs hu.nd hi (d105 G bd d _)
 rw[e2]
 simp only
 obtain⟨t,ht⟩:∃t,bJ p p.kids {x with label:=d.it.label}=t:=⟨_,rfl⟩
 rw[ht]at hT ⊢
 rw[U.cs_eq {x with label:=d.it.label}]at hT
 simp only[Idd.cs]at hW hP hF hT
 unfold Dd.cs at hW ⊢
 rw[Itm.cs_eq]at hW ⊢
 rw[U.cs_eq x]
 refine Pure.w c64 λR hR=>?_
 unfold s64 r64
 rcases Classical.em (t=10)with h|h
 ·subst h
  rw[if_pos rfl]at hR
  (repeat' (first|(with_reducible first|refine ab hP ?_|refine ab hF ?_|refine ab hT ?_)|simp only[EVz,seval,↓reduceIte,EV6,EV7,hne]|simp only[EVz,seval,↓reduceIte,EV6,EV7]|(with_reducible intro blk hblk;(try(have hnx:=hblk;simp only[EVK]at hnx;first|(have hne:=AI hnx hne)|(have hne:=hnx))))|fail))
  all_goals exact RQ hR
 ·rw[if_neg h]at hR
  (repeat' (first|(with_reducible first|refine ab hP ?_|refine ab hF ?_|refine ab hT ?_)|simp only[EVz,seval,↓reduceIte,EV6,EV7,h,hne]|simp only[EVz,seval,↓reduceIte,EV6,EV7,h]|(with_reducible intro blk hblk;(try(have hnx:=hblk;simp only[EVK]at hnx;first|(have hne:=AI hnx hne)|(have hne:=hnx))))|fail))
  rename_i b4 _ _ _ b5 _ _ _ b6 _ _ _ b8 _ _ _
  refine bL [(b5,_)] [_,_,_,_] (hW b5).v (aB.rfl' _) (SubN.perm (perm_middle (l₁:=[_,_,_]) (l₂:=[_])).symm) (λr1 σ1 hr hnd2=>?_)
  obtain⟨rfl,rfl⟩:=hr
  refine⟨_,SubN.refl _,?_⟩
  have q1:¬b5=b6:=by have:=hne;intro e;subst e;simp at this
  (repeat' (simp only[EVz,seval,↓reduceIte,EV6,EV7,q1,hne]))
  all_goals exact RQ hR
end
theorem pD {G:Glob} {P:Program} {f:Value} {args:List AV} {x:Nat×AObj} {σ:Store} {K:AV->Store->Prop} {t:Tag K} {v:AV}
  (h:cZ G P f args [x] λr σ'=>r=v/\σ'=[x]) (hk:K v (x::σ)):CALL G P f args (x::σ) K t:=
 bg [x] σ h (aB.rfl' _) (SubN.refl _) (by rintro _ _ ⟨rfl,rfl⟩;exact hk)
theorem spot_le {u:U} (h:Good u) {i q:Idd} {wh:Int} {k:Nat} (e:spot u i wh=some (q,k)):k<=(fnd q u).kids.length:=by
 unfold spot at e
 split at e
 ·injection e with e;injection e with e1 e2;omega
 ·split at e
  ·injection e with e;injection e with e1 e2;subst e1;omega
  ·obtain⟨⟨p,d,j⟩,e1,e2⟩:=Option.map_eq_some_iff.1 e
   obtain⟨h1,h2,h3⟩:=er h i _ e1
   injection e2 with e3 e4
   subst e3
   rw[h3.fnd]
   show k<=p.kids.length
   change j<p.kids.length at h1
   simp only at e4
   split at e4<;>omega
theorem anc_len {u:U} {q:Idd} (hq:q∈u.ids):(anc q u).length+1=(U.way q u).length:=by
 unfold anc
 rw[length_reverse,length_map,length_dropLast]
 have:=eo hq
 omega
theorem SubN.six {n x a b c d:Nat×AObj}:SubN [n,x,a,b,c,d] [a,x,b,n,c,d]:=
 SubN.perm ((perm_middle (l₁:=[a,x,b]) (l₂:=[c,d])).trans (List.Perm.cons _ (List.Perm.swap _ _ _))).symm
section
variable (G:Glob) (hG:GOk G)
include hG
set_option maxHeartbeats 4000000 in
theorem f59 (u:U) (hu:Good u) (y:U) (d:Dd) (i:Idd) (hO:one u d.it.at_=(i,0)) (hk0:d.it.kind=0) (h0:0<=d.it.wh) (h3:d.it.wh<=3) (hd:Unit0 d) (hp:d.it.at_.length<1000000) (hp2:d.it.to_.length<1000000):
  Pure G Tryz.prog 59 [.agg u.cs,.agg y.cs,.agg d.cs] (aQ (insP u i d)):=by
 have hs:=hu.short
 have hcu:=hu.cnt
 have hi:i∈u.ids:=by have:=bU (u:=u) (p:=d.it.at_);rw[hO]at this;exact this rfl
 have hDe:=f88 G u d.it hs hcu hu.nd (good_hk hu) (nW hu) (.inl hk0) h0 h3 hp hp2
 have hde:dest u d.it=(match spot u i d.it.wh with|none=>.inr 9|some q=>.inl q):=by
  unfold dest
  rw[hO]
  simp[hk0]
  rfl
 rw[hde]at hDe
 unfold insP
 have hsm:=λq k=>kz (q:=q) (k:=k) hu.nd hi (wh:=d.it.wh)
 have hsl:=λq k=>spot_le (q:=q) (k:=k) (i:=i) (wh:=d.it.wh) hu
 obtain⟨z,hz⟩:∃z,spot u i d.it.wh=z:=⟨_,rfl⟩
 rw[hz]at hDe hsm hsl ⊢
 unfold cU at hDe
 unfold Dd.cs
 rw[U.cs_eq y]
 rcases z with _|⟨q,k⟩
 ·refine Pure.w c59 λR hR=>?_
  unfold s59 r59
  unfold aQ at hR
  simp only at hDe hR
  rw[Itm.cs_eq]at hDe ⊢
  (repeat' (first|(with_reducible refine ab hDe ?_)|simp only[EVz,seval,↓reduceIte,EV6,EV7,hne]|simp only[EVz,seval,↓reduceIte,EV6,EV7]|(with_reducible intro blk hblk;(try(have hnx:=hblk;simp only[EVK]at hnx;first|(have hne:=AI hnx hne)|(have hne:=hnx))))|fail))
  all_goals exact RQ hR
 ·have hq:=hsm q k rfl
  have hkl:=hsl q k rfl
  simp only at hDe ⊢
  have hus:=cf hd.nodes (by have:=hd.cnt;omega)
  have hSt:=f43 G d.it.unit d.act d.item hus (by have h1:=wt_le hd.nodes;have h2:=hd.cnt;omega)
  obtain⟨s1,s2,s3,s4,s5⟩:=dW d.it.unit d.act d.item hd.nodes
  obtain⟨x,hx⟩:∃x,stampU d.it.unit d.act d.item=x:=⟨_,rfl⟩
  rw[hx]at hSt s1 s2 s3 s4 s5 ⊢
  have hxs:x.Short:=cf s5 (by rw[s3];have:=hd.cnt;omega)
  have hF:=f31 G q u hs
  unfold i8 at hF
  rw[gf hq,if_neg (by simp)]at hF
  have hfk:=mY hu q
  have hanc:=anc_len hq
  have hDp:=f90 G u q x hs.1 hxs.1
  have hCu:=f55 G u hs.1
  have hCx:=f55 G x hxs.1
  have hIu:=f30 G u hs.1
  have hIx:=f30 G x hxs.1
  have hT:=f89 G hG (fnd q u) x (by omega)
  have hxl:x.ids.length=x.flat.length:=by unfold U.ids;rw[length_map]
  have hul:u.ids.length=u.flat.length:=by unfold U.ids;rw[length_map]
  have hxf:x.flat.length<=1024:=by rw[s3];exact hd.cnt
  have hCF:=λbh=>f91k G [(bh,.cells 70 [.lst 3 (u.ids.map Idd.cs)])] (.func (.func 92) #[] #[.pointer (some ⟨bh,0,none⟩)]) (λk=>decide (k∈u.ids)) x.ids (by omega)
   (λw _=>⟨_,_,_,rfl,f92 G bh u.ids w (by omega)⟩)
  have hW:=λbn bx=>f94 G _ _ _ q u hs hu.nd hq (d95 G bn bx k x _ hkl (by omega))
  have hcx2:(0:Int)<=x.cnt/\x.cnt<=1024:=by unfold U.cnt;omega
  have hcu2:(0:Int)<=u.cnt/\u.cnt<=1024:=by unfold U.cnt;omega
  have w3:IntKind.i64.wrap (u.cnt+x.cnt)=u.cnt+x.cnt:=au (by omega) (by omega)
  rw[←hanc]
  clear s1 s2 s4 hde hsm hsl hfk
  obtain⟨P,hP⟩:∃P,fnd q u=P:=⟨_,rfl⟩
  rw[hP]at hF hT hkl ⊢
  obtain⟨t,ht⟩:∃t,bJ P P.kids x=t:=⟨_,rfl⟩
  rw[ht]at hT ⊢
  obtain⟨an,han⟩:∃an,(anc q u).length=an:=⟨_,rfl⟩
  rw[han]at hDp ⊢
  obtain⟨ex,hex⟩:∃ex,x.ids.any (λk=>decide (k∈u.ids))=ex:=⟨_,rfl⟩
  rw[hex]at hCF ⊢
  simp only[Idd.cs]at hF hDp hW
  rw[U.cs_eq P]at hF hT
  unfold aQ
  rw[show(((an+1:Nat):Int))=(an:Int)+1 by omega]
  refine Pure.w c59 λR hR=>?_
  unfold s59 r59
  rw[Itm.cs_eq]at hDe ⊢
  rw[U.cs_eq d.it.unit]at hSt
  rcases Classical.em (t=0)with h|h
  ·subst h
   rw[if_neg (by simp)]at hR
   (repeat' (first|(with_reducible (first|refine ae (λh=>?_) (λh=>?_)|refine ag (λh=>?_) (λh=>?_))<;>(try simp only[Da,Db,Dc,Dw,De,Df,Dg,Dh]at h))|(with_reducible first|refine ab hDe ?_|refine ab hF ?_|refine ab hSt ?_|refine ab hT ?_|refine ab hDp ?_|refine ab hCu ?_|refine ab hCx ?_|refine ab hIu ?_|refine ab hIx ?_)|simp only[EVz,seval,↓reduceIte,EV6,EV7,w3,hne]|simp only[EVz,seval,↓reduceIte,EV6,EV7,w3]|(with_reducible intro blk hblk;(try(have hnx:=hblk;simp only[EVK]at hnx;first|(have hne:=AI hnx hne)|(have hne:=hnx))))|(with_reducible refine ak ?_ ?_)|(with_reducible refine am ?_)|(refine pD (hCF blk).v ?_)|fail))
   all_goals try(
    refine hR _ _ (.inl (.inl ?_))
    rw[if_pos (by first|exact .inl (by omega)|exact .inr (.inl (by omega))|exact .inr (.inr (by omega)))]
    done)
   all_goals
    have hno:¬(64<=P.kids.length\/8<(an:Int)+1+x.dep\/1024<u.cnt+x.cnt):=by omega
    rw[if_neg hno]at hR
   all_goals try(
    refine hR _ _ (.inl (.inl ?_))
    rw[if_pos (by assumption)]
    done)
   all_goals
    have hexf:ex=false:=by assumption
    rw[hexf]at hR
    simp only[Bool.false_eq_true,if_false]at hR
    refine bL [(_,_),(_,_)] [_,_,_,_] (hW _ _).v (aB.rfl' _) SubN.six (λr1 σ1 hr hnd2=>?_)
    obtain⟨rfl,rfl⟩:=hr
    refine⟨_,SubN.refl _,?_⟩
    (repeat' (simp only[EVz,seval,↓reduceIte,EV6,EV7,hne]))
    all_goals exact RQ hR
  ·rw[if_pos h]at hR
   (repeat' (first|(with_reducible (first|refine ae (λh=>?_) (λh=>?_)|refine ag (λh=>?_) (λh=>?_))<;>(try simp only[Da,Db,Dc,Dw,De,Df,Dg,Dh]at h))|(with_reducible first|refine ab hDe ?_|refine ab hF ?_|refine ab hSt ?_|refine ab hT ?_)|simp only[EVz,seval,↓reduceIte,EV6,EV7,h,hne]|simp only[EVz,seval,↓reduceIte,EV6,EV7,h]|(with_reducible intro blk hblk;(try(have hnx:=hblk;simp only[EVK]at hnx;first|(have hne:=AI hnx hne)|(have hne:=hnx))))|(with_reducible refine ak ?_ ?_)|(with_reducible refine am ?_)|(exfalso;omega)|fail))
   all_goals exact RQ hR
end
theorem nN {u:U} (h:Good u) {i t:Idd} (hi:i∈u.ids) (hne:u.id≠i) (ht:t∈u.ids) {wh:Int} (h0:0<=wh) (h3:wh<=3) {q:Idd} {k:Nat} (e:fk u i t wh=some (q,k)):q∈u.ids/\q∉(fnd i u).ids/\q∈(without i u).ids:=by
 obtain⟨g1,g2,g3,A,B,hA,e1,e2⟩:=ff h hi hne
 obtain⟨own,dO,j,w1,w2,hp⟩:=aW h.nd hi hne
 obtain⟨a,x,b,s,hx,hj,hl⟩:=hp.split
 have hfx:fnd i u=x:=aF hl
 have hqu:q∈u.ids/\q∉(fnd i u).ids:=by
  unfold fk at e
  rw[w1]at e
  simp only at e
  split at e
  ·cases e
  ·rename_i hc
   rw[not_or]at hc
   split at e
   ·injection e with e;injection e with e3 e4
    subst e3
    refine⟨hp.mem,?_⟩
    rw[hfx]
    have:=(U.nd_kids hp.nd).2
    rw[s.eq,U.idss_app,U.idss_cons]at this
    exact λhm=>this (mem_append.2 (.inr (mem_append.2 (.inl hm))))
   ·rename_i hti
    obtain⟨⟨q',k'⟩,e5,e6⟩:=Option.map_eq_some_iff.1 e
    injection e6 with e7 e8
    subst e7
    have hr:¬(besides wh=true/\t=u.id):=by
     rintro⟨r1,r2⟩
     have hh:wh=2\/wh=3:=by simpa[besides]using r1
     unfold spot at e5
     rw[cB r2.symm]at e5
     rcases hh with hh|hh<;>simp[hh]at e5
    obtain⟨P,dp,k2,hg⟩:=iP h.nd ht h0 h3 hr
    have:=hg.spot
    rw[e5]at this
    injection this with this
    injection this with e9 e10
    simp only at e9 ⊢
    rw[e9]
    refine⟨hg.mem,hg.out i hi λhm=>?_⟩
    exact hc.1 ((gI u h.nd ht hi).2 ⟨hti,hm⟩)
 refine⟨hqu.1,hqu.2,?_⟩
 rw[e2]
 have:=hqu.1
 rw[e1]at this
 rcases mem_append.1 this with hm|hm
 ·exact mem_append.2 (.inl hm)
 ·rcases mem_append.1 hm with hm|hm
  ·exact absurd hm hqu.2
  ·exact mem_append.2 (.inr hm)
theorem nP {i:Idd} {f:U->U}:∀us:List U,(U.wths i f us).length=us.length
 |[]=>by rw[U.wths_nil]
 |u::us=>by
  rw[U.wths_cons]
  split
  ·rw[length_cons,length_cons,nP us]
  ·rfl
theorem oH {u:U} (h:Good u) {i q:Idd} (hi:i∈u.ids) (hne:u.id≠i) (hq:q∈u.ids) (hqi:q∉(fnd i u).ids) {own:U} {dO j:Nat} (w1:aN i u=some (own,dO,j)):
  (fnd q (without i u)).kids.length=if q=own.id then own.kids.length-1 else (fnd q u).kids.length:=by
 have hp:=eW u h.nd hi w1
 obtain⟨a,x,b,s,hx,hj,hl⟩:=hp.split
 have hfx:fnd i u=x:=aF hl
 rw[hfx]at hqi
 have hW:without i u=U.wth own.id (λy=>{y with kids:=aL y.kids j}) u:=by unfold without;rw[w1]
 subst hj
 have hway:=jg (t:=q) h.nd hp s.eq hqi
 have hlast:=(dj u h.nd hq).2
 have hf2:fnd q (without i u)=U.wth own.id (λy=>{y with kids:=aL y.kids a.length}) (fnd q u):=by
  rw[hW]
  refine aF ?_
  rw[hway,getLast?_map,hlast,Option.map_some]
 rw[hf2]
 by_cases hqo:q=own.id
 ·subst hqo
  rw[if_pos rfl,hp.fnd,aZ rfl,s.eq]
  simp only
  rw[bG,length_append,length_append,length_cons];omega
 ·rw[if_neg hqo,U.wth_eq,if_neg (by rw[(dj u h.nd hq).1];exact hqo)]
  exact nP _
theorem goes_le {u:U} (h:Good u) {i t:Idd} (hi:i∈u.ids) (hne:u.id≠i) (ht:t∈u.ids) {wh:Int} (h0:0<=wh) (h3:wh<=3) {q:Idd} {k:Nat} (e:fk u i t wh=some (q,k)):k<=(fnd q (without i u)).kids.length:=by
 obtain⟨m1,m2,m3⟩:=nN h hi hne ht h0 h3 e
 obtain⟨own,dO,j,w1,w2,hp⟩:=aW h.nd hi hne
 obtain⟨p1,p2,_⟩:=er h i _ w1
 change j<own.kids.length at p1
 rw[oH h hi hne m1 m2 w1]
 unfold fk at e
 rw[w1]at e
 simp only at e
 split at e
 ·cases e
 ·split at e
  ·injection e with e;injection e with e3 e4
   rw[if_pos e3.symm];omega
  ·obtain⟨⟨q',k'⟩,e5,e6⟩:=Option.map_eq_some_iff.1 e
   have hsl:=spot_le h e5
   injection e6 with e7 e8
   simp only at e7 e8
   subst e7
   by_cases hqo:q'=own.id
   ·rw[if_pos hqo]
    rw[hqo,hp.fnd]at hsl
    split at e8
    ·omega
    ·rename_i hc
     have:¬j<k':=λhjk=>hc ⟨hqo,hjk⟩
     omega
   ·rw[if_neg hqo]
    split at e8
    ·rename_i hc;exact absurd hc.1 hqo
    ·omega
theorem SubN.seven {n x a b c d e:Nat×AObj}:SubN [n,x,a,b,c,d,e] [a,b,c,n,d,e,x]:=
 SubN.perm ((perm_middle (l₁:=[a,b,c]) (l₂:=[d,e,x])).trans (List.Perm.cons _ (perm_middle (l₁:=[a,b,c,d,e]) (l₂:=[])))).symm
section
variable (G:Glob)
theorem oP (u X:U) (d:Dd) (e:Int) (he:e≠0) (hDe:Pure G Tryz.prog 88 [.agg u.cs,.agg d.it.cs] (cU (.inr e))):Pure G Tryz.prog 65 [.agg u.cs,.agg X.cs,.agg d.cs] (aQ (u,e)):=by
 unfold cU at hDe
 unfold Dd.cs aQ
 rw[Itm.cs_eq]at hDe ⊢
 rw[U.cs_eq X]
 refine Pure.w c65 λR hR=>?_
 unfold s65 r65
 (repeat' (first|(with_reducible (refine ae (λh=>?_) (λh=>?_))<;>(try simp only[Da,Db,Dc,Dw,De,Df,Dg,Dh]at h))|(with_reducible refine ab hDe ?_)|simp only[EVz,seval,↓reduceIte,EV6,EV7,he,hne]|simp only[EVz,seval,↓reduceIte,EV6,EV7,he]|(with_reducible intro blk hblk;(try(have hnx:=hblk;simp only[EVK]at hnx;first|(have hne:=AI hnx hne)|(have hne:=hnx))))|(exfalso;omega)|fail))
 all_goals exact RQ hR
end
section
variable (G:Glob) (hG:GOk G)
include hG
set_option maxHeartbeats 4000000 in
theorem f65 (u:U) (hu:Good u) (d:Dd) (i:Idd) (hO:one u d.it.at_=(i,0)) (hne0:u.id≠i) (hk6:d.it.kind=6) (h0:0<=d.it.wh) (h3:d.it.wh<=3) (hp:d.it.at_.length<1000000) (hp2:d.it.to_.length<1000000):
  Pure G Tryz.prog 65 [.agg u.cs,.agg (fnd i u).cs,.agg d.cs] (aQ (if (one u d.it.to_).2≠0 then (u,(one u d.it.to_).2)else movP u i (one u d.it.to_).1 d)):=by
 have hs:=hu.short
 have hcu:=hu.cnt
 have hi:i∈u.ids:=by have:=bU (u:=u) (p:=d.it.at_);rw[hO]at this;exact this rfl
 have hDe:=f88 G u d.it hs hcu hu.nd (good_hk hu) (nW hu) (.inr hk6) h0 h3 hp hp2
 have hXid:=(dj u hu.nd hi).1
 have hXf:=aM u hu.nd hi
 have htm:=bU (u:=u) (p:=d.it.to_)
 have hde:dest u d.it=if (one u d.it.to_).2≠0 then .inr (one u d.it.to_).2 else (match fk u i (one u d.it.to_).1 d.it.wh with|none=>.inr 9|some q=>.inl q):=by
  unfold dest
  rw[hO]
  simp[hk6]
  rfl
 rw[hde]at hDe
 obtain⟨⟨t,e⟩,hte⟩:∃z,one u d.it.to_=z:=⟨_,rfl⟩
 rw[hte]at hDe htm ⊢
 simp only at hDe htm ⊢
 rcases Classical.em (e=0)with he|he
 ·subst he
  rw[if_neg (by simp)]at hDe ⊢
  have ht:=htm rfl
  have hgm:=λq k=>nN (q:=q) (k:=k) hu hi hne0 ht h0 h3
  have hgl:=λq k=>goes_le (q:=q) (k:=k) hu hi hne0 ht h0 h3
  unfold movP
  obtain⟨z,hz⟩:∃z,fk u i t d.it.wh=z:=⟨_,rfl⟩
  rw[hz]at hDe hgm hgl ⊢
  rcases z with _|⟨q,k⟩
  ·exact oP G u _ d 9 (by omega) hDe
  ·obtain⟨m1,m2,m3⟩:=hgm q k rfl
   have hkl:=hgl q k rfl
   obtain⟨g1,g2,g3,g4⟩:=ff hu hi hne0
   obtain⟨own,dO,j,w1,w2,hpp⟩:=aW hu.nd hi hne0
   have hP:=f104 G i u hs hu.nd
   unfold km at hP
   rw[w1]at hP
   have hWo:=f97 G u hu i hi hne0
   have hXs:(fnd i u).Short:=hs.node hXf
   rw[w2]
   simp only
   obtain⟨V,hV⟩:∃V,without i u=V:=⟨_,rfl⟩
   rw[hV]at hWo g1 m3 hkl ⊢
   have hVs:=g1.short
   have hF:=f31 G q V hVs
   unfold i8 at hF
   rw[gf m3,if_neg (by simp)]at hF
   have hfk:=mY g1 q
   have hanc:=anc_len m3
   have hvl:=g1.cnt
   clear hgm hgl hde htm g4 g2 g3 w1 w2 hpp hz m1 m2
   obtain⟨X,hX⟩:∃X,fnd i u=X:=⟨_,rfl⟩
   rw[hX]at hXid hXf hXs ⊢
   subst hXid
   have hDp:=f90 G V q X hVs.1 hXs.1
   have hT:=f89 G hG (fnd q V) X (by omega)
   have hW:=λbn bx=>f94 G _ _ _ q V hVs g1.nd m3 (d106 G bn bx k X _ hkl (by omega))
   obtain⟨P,hPe⟩:∃P,fnd q V=P:=⟨_,rfl⟩
   rw[hPe]at hF hT hkl hfk ⊢
   obtain⟨tk,htk⟩:∃tk,bJ P P.kids X=tk:=⟨_,rfl⟩
   rw[htk]at hT ⊢
   rw[←hanc]
   obtain⟨an,han⟩:∃an,(anc q V).length=an:=⟨_,rfl⟩
   rw[han]at hDp ⊢
   unfold cU at hDe
   simp only[Idd.cs]at hF hDp hP hWo hW
   simp only at hDe
   rw[U.cs_eq P]at hF hT
   rw[U.cs_eq X]at hT hDp hW ⊢
   unfold Dd.cs aQ
   rw[show(((an+1:Nat):Int))=(an:Int)+1 by omega]
   refine Pure.w c65 λR hR=>?_
   unfold s65 r65
   rw[Itm.cs_eq]at hDe ⊢
   rcases Classical.em (tk=0)with h|h
   ·subst h
    rw[if_neg (by simp)]at hR
    (repeat' (first|(with_reducible (first|refine ae (λh=>?_) (λh=>?_)|refine ag (λh=>?_) (λh=>?_))<;>(try simp only[Da,Db,Dc,Dw,De,Df,Dg,Dh]at h))|(with_reducible first|refine ab hDe ?_|refine ab hP ?_|refine ab hWo ?_|refine ab hF ?_|refine ab hT ?_|refine ab hDp ?_)|simp only[EVz,seval,↓reduceIte,EV6,EV7,ai,hne]|simp only[EVz,seval,↓reduceIte,EV6,EV7,ai]|(with_reducible intro blk hblk;(try(have hnx:=hblk;simp only[EVK]at hnx;first|(have hne:=AI hnx hne)|(have hne:=hnx))))|fail))
    all_goals try(
     refine hR _ _ (.inl (.inl ?_))
     rw[if_pos (by first|exact .inl ⟨by assumption,by omega⟩|exact .inr (by omega))]
     done)
    all_goals
     have hno:¬((q≠own.id/\64<=P.kids.length)\/8<(an:Int)+1+X.dep):=by
      rintro(⟨g2,g3⟩|g4)
      ·first
        |omega
        |exact g2 (by assumption)
      ·omega
     rw[if_neg hno]at hR
     refine bL [(_,_),(_,_)] [_,_,_,_,_] (hW _ _).v (aB.rfl' _) SubN.seven (λr1 σ1 hr hnd2=>?_)
     obtain⟨rfl,rfl⟩:=hr
     refine⟨_,SubN.refl _,?_⟩
     have hne:=hnd2
     simp[Store.keys]at hne
     (repeat' (simp only[EVz,seval,↓reduceIte,EV6,EV7,hne]))
     all_goals exact RQ hR
   ·rw[if_pos h]at hR
    have h1:decide (tk≠0)=true:=decide_eq_true h
    clear hDp hW hfk hanc hkl
    (repeat' (first|(with_reducible first|refine ab hDe ?_|refine ab hP ?_|refine ab hWo ?_|refine ab hF ?_|refine ab hT ?_)|simp only[EVz,seval,↓reduceIte,EV6,EV7,h1,hne]|simp only[EVz,seval,↓reduceIte,EV6,EV7,h1]|(with_reducible intro blk hblk;(try(have hnx:=hblk;simp only[EVK]at hnx;first|(have hne:=AI hnx hne)|(have hne:=hnx))))|fail))
    all_goals exact RQ hR
 ·rw[if_pos he]at hDe ⊢
  exact oP G u _ d e he hDe
end
def fS:List (Int×AV):=[(0,fnv 59),(1,fnv 60),(2,fnv 61),(3,fnv 62),(4,fnv 63),(5,fnv 64),(6,fnv 65)]
theorem et:∀τ w,Rep τ w (.sc .nilFunc) .nilFunc:=by
 intro τ w
 simp only[Rep]
theorem do_none {k:Int} (h:¬(0<=k/\k<=6)):aX k fS=none:=by
 simp only[fS,aX]
 rw[if_neg (by omega),if_neg (by omega),if_neg (by omega),if_neg (by omega),if_neg (by omega),if_neg (by omega),if_neg (by omega)]
theorem gH {x:Itm} (h:x.may=true) (hk:x.kind=0):x.unit.flat.length<=1024:=by
 have:=gO h
 unfold Itm.own at this
 simp only[hk,if_true,Bool.and_eq_true]at this
 have h2:=this.2.1
 rw[iw]at h2
 unfold gS cG at h2
 simp only[Bool.and_eq_true,decide_eq_true_eq]at h2
 have h3:=h2.1.2.2.1
 unfold U.cnt at h3
 omega
theorem ja {x:Itm} (h:x.may=true) (hk:x.kind=2\/x.kind=3):x.old.length<=256/\x.new.length<=256/\(0<=x.nth/\x.nth<=256)/\(x.kind=2->x.old≠[])/\(x.kind=3->1<=x.new.length/\(x.old=[]->x.nth=0)):=by
 have:=gO h
 unfold Itm.own cY inR at this
 rcases hk with hk|hk
 ·rw[if_neg (by omega),if_pos hk]at this
  simp only[Bool.and_eq_true,decide_eq_true_eq]at this
  obtain⟨⟨a1,a2⟩,⟨b1,b2⟩,c1,c2⟩:=this
  refine⟨(ec a1).2,(ec b1).2,⟨c1,c2⟩,λ_ e=>?_,λe=>?_⟩
  ·rw[e]at a2;simp at a2
  ·omega
 ·rw[if_neg (by omega),if_neg (by omega),if_pos hk]at this
  simp only[Bool.and_eq_true,Bool.or_eq_true,decide_eq_true_eq]at this
  obtain⟨⟨a1,a2⟩,⟨b1,b2⟩,⟨c1,c2⟩,d1⟩:=this
  refine⟨(ec a1).2,(ec b1).2,⟨c1,c2⟩,λe=>?_,λ_=>⟨by omega,λe=>?_⟩⟩
  ·omega
  ·rcases d1 with d1|d1
   ·rw[e]at d1;simp at d1
   ·exact d1
theorem lF {x:Itm} (h:x.may=true) (hk:x.kind=4):x.new.length<=256:=(ec (ns h (.inr (.inr hk)))).2
section
variable (G:Glob) (hG:GOk G)
include hG
omit hG in
theorem f37:aj G Tryz.prog 37 [] [] (λr σ=>∃b,r= .sc (.map (some b))/\σ=[(b,.map (cJ intK fS))]):=by
 refine aj.w c37 ?_
 unfold s37 r37
 (try simp only[EVz,seval,↓reduceIte,EV6,EV7])
 refine ep ?_
 intro b hb
 (try simp only[EVz,seval,↓reduceIte,EV6,EV7])
 refine fW bO (l:=[]) (k:=0) (eT:=83) rfl (mS 0) rfl (by kernel_rfl) bf ?_
 (repeat' (first|simp only[EVz,seval,↓reduceIte,EV6,EV7]|(refine fW bO (eT:=83) rfl (mS _) rfl (by kernel_rfl) bf ?_)|fail))
 exact RET.mk (SubN.refl _) ⟨b,rfl,rfl⟩
omit hG in
set_option maxHeartbeats 8000000 in
theorem pI (u:U) (hu:Good u) (d:Dd) (hk:¬(0<=d.it.kind/\d.it.kind<=6)):Pure G Tryz.prog 14 [.agg u.cs,.agg d.cs] (aQ (u,1)):=by
 have hD:=f37 G
 have hm1:=do_none hk
 have hcs:=U.cs_eq u
 unfold Dd.cs aQ
 rw[Itm.cs_eq,hcs]
 refine Pure.w c14 λR hR=>?_
 unfold s14 r14
 (repeat' (first|simp only[EVz,seval,↓reduceIte,EV6,EV7,hm1,Option.getD_none,Option.isSome_none,hne]|simp only[EVz,seval,↓reduceIte,EV6,EV7,hm1,Option.getD_none,Option.isSome_none]|(with_reducible intro blk hblk;(try(have hnx:=hblk;simp only[EVK]at hnx;(have hne:=hnx))))|(refine az [] _ hD.v (aB.rfl' _) (SubN.refl _) (λr σ' hh hnd=>?_);obtain⟨bm,rfl,rfl⟩:=hh;(have hne:=hnd);(try simp[Store.keys]at hne))|(refine aI bO (l:=fS) (k:=d.it.kind) (z:=.nilFunc) (zv:=.sc .nilFunc) (eT:=83) rfl (ct _) (by kernel_rfl) (by exact bf) (by kernel_rfl) et ?_)|fail))
 all_goals exact RQ hR
set_option maxHeartbeats 8000000 in
theorem apply_of (u:U) (hu:Good u) (d:Dd) (hs:d.it.Shorts) (fn:Nat) (hm1:aX d.it.kind fS=some (fnv fn)) (q:U×Int)
  (hq:d.it.may=true->(one u d.it.at_).2=0->(d.it.kind=0\/(one u d.it.at_).1≠u.id)->Pure G Tryz.prog fn [.agg u.cs,.agg (fnd (one u d.it.at_).1 u).cs,.agg d.cs] (aQ q)):
  Pure G Tryz.prog 14 [.agg u.cs,.agg d.cs] (aQ (if d.it.may=false then (u,1)else if (one u d.it.at_).2≠0 then (u,(one u d.it.at_).2)else if d.it.kind=0\/(one u d.it.at_).1≠u.id then q else if d.it.kind=6/\(one u d.it.to_).2≠0 then (u,(one u d.it.to_).2)else (u,9))):=by
 have hsh:=hu.short
 obtain⟨q1,_⟩:=(Itm.Shorts_eq d.it).1 hs
 have hV:=f38 G hG d.it hs
 have hO:=f39 G u d.it.at_ hsh.1 hu.cnt q1.at_
 have hO2:=f39 G u d.it.to_ hsh.1 hu.cnt q1.to_
 have hD:=f37 G
 have hid:=bU (u:=u) (p:=d.it.at_)
 have hFF:=λi=>f31 G i u hsh
 unfold gx at hO hO2
 obtain⟨⟨i,e⟩,hie⟩:∃z,one u d.it.at_=z:=⟨_,rfl⟩
 obtain⟨⟨t,e'⟩,hte⟩:∃z,one u d.it.to_=z:=⟨_,rfl⟩
 rw[hie]at hO hid hq ⊢
 rw[hte]at hO2 ⊢
 simp only at hO hO2 hid hq ⊢
 obtain⟨mv,hmv⟩:∃b,d.it.may=b:=⟨_,rfl⟩
 rw[hmv]at hV hq ⊢
 have hcs:=U.cs_eq u
 obtain⟨f,hf⟩:∃f,fnv fn= .sc f:=⟨_,rfl⟩
 have hfv:f= .func (.func fn) #[] #[]:=by unfold fnv at hf;injection hf with hf;exact hf.symm
 rw[hf]at hm1
 unfold Dd.cs at hq ⊢
 rw[Itm.cs_eq]at hV hq ⊢
 unfold aQ at hq ⊢
 refine Pure.w c14 λR hR=>?_
 unfold s14 r14
 cases mv with
 |false=>
  rw[if_pos rfl]at hR
  rw[hcs]at hR ⊢
  (repeat' (first|(with_reducible refine ab hV ?_)|simp only[EVz,seval,↓reduceIte,EV6,EV7,hm1,Option.getD_some,Option.isSome_some,hne]|simp only[EVz,seval,↓reduceIte,EV6,EV7,hm1,Option.getD_some,Option.isSome_some]|(with_reducible intro blk hblk;(try(have hnx:=hblk;simp only[EVK]at hnx;(have hne:=hnx))))|(refine az [] _ hD.v (aB.rfl' _) (SubN.refl _) (λr σ' hh hnd=>?_);obtain⟨bm,rfl,rfl⟩:=hh;(have hne:=hnd);(try simp[Store.keys]at hne))|(refine aI bO (l:=fS) (k:=d.it.kind) (z:=.nilFunc) (zv:=.sc .nilFunc) (eT:=83) rfl (ct _) (by kernel_rfl) (by exact bf) (by kernel_rfl) et ?_)|fail))
  all_goals exact RQ hR
 |true=>
  rw[if_neg (by simp)]at hR
  rcases Classical.em (e=0)with h|h
  ·subst h
   rw[if_neg (by simp)]at hR
   have hi:=hid rfl
   have hF:=hFF i
   unfold i8 at hF
   rw[gf hi,if_neg (by simp)]at hF
   clear hFF hid
   obtain⟨X,hX⟩:∃X,fnd i u=X:=⟨_,rfl⟩
   rw[hX]at hF hq
   rcases Classical.em (d.it.kind=0\/i≠u.id)with g|g
   ·rw[if_pos g]at hR
    have hC:=(hq rfl rfl g).v
    rw[←hfv]at hC
    rw[hcs]at hO hF hC ⊢
    simp only[Idd.cs]at hF
    rcases Classical.em (i=u.id)with g1|g1
    ·have g0:d.it.kind=0:=g.resolve_right (λh=>h g1)
     have e1:decide (i=u.id)=true:=decide_eq_true g1
     have e2:decide (d.it.kind=0)=true:=decide_eq_true g0
     (repeat' (first|(with_reducible first|refine ab hV ?_|refine ab hO ?_|refine ab hF ?_)|simp only[EVz,seval,↓reduceIte,EV6,EV7,hm1,Option.getD_some,Option.isSome_some,ai,e1,e2,hne]|simp only[EVz,seval,↓reduceIte,EV6,EV7,hm1,Option.getD_some,Option.isSome_some,ai,e1,e2]|(with_reducible intro blk hblk;(try(have hnx:=hblk;simp only[EVK]at hnx;first|(have hne:=AI hnx hne)|(have hne:=hnx))))|(refine az [] _ hD.v (aB.rfl' _) (SubN.refl _) (λr σ' hh hnd=>?_);obtain⟨bm,rfl,rfl⟩:=hh;(have hne:=hnd);(try simp[Store.keys]at hne))|(refine aI bO (l:=fS) (k:=d.it.kind) (z:=.nilFunc) (zv:=.sc .nilFunc) (eT:=83) rfl (ct _) (by kernel_rfl) (by exact bf) (by kernel_rfl) et ?_)|(refine aK hC ?_)|fail))
     all_goals exact RQ hR
    ·have e1:decide (i=u.id)=false:=decide_eq_false g1
     (repeat' (first|(with_reducible first|refine ab hV ?_|refine ab hO ?_|refine ab hF ?_)|simp only[EVz,seval,↓reduceIte,EV6,EV7,hm1,Option.getD_some,Option.isSome_some,ai,e1,hne]|simp only[EVz,seval,↓reduceIte,EV6,EV7,hm1,Option.getD_some,Option.isSome_some,ai,e1]|(with_reducible intro blk hblk;(try(have hnx:=hblk;simp only[EVK]at hnx;first|(have hne:=AI hnx hne)|(have hne:=hnx))))|(refine az [] _ hD.v (aB.rfl' _) (SubN.refl _) (λr σ' hh hnd=>?_);obtain⟨bm,rfl,rfl⟩:=hh;(have hne:=hnd);(try simp[Store.keys]at hne))|(refine aI bO (l:=fS) (k:=d.it.kind) (z:=.nilFunc) (zv:=.sc .nilFunc) (eT:=83) rfl (ct _) (by kernel_rfl) (by exact bf) (by kernel_rfl) et ?_)|(refine aK hC ?_)|fail))
     all_goals exact RQ hR
   ·rw[if_neg g]at hR
    rw[not_or,Classical.not_not]at g
    obtain⟨g0,g1⟩:=g
    have e1:decide (i=u.id)=true:=decide_eq_true g1
    have e2:decide (d.it.kind=0)=false:=decide_eq_false g0
    rw[hcs]at hO hO2 hF ⊢
    simp only[Idd.cs]at hF
    rcases Classical.em (d.it.kind=6)with k6|k6
    ·have e3:decide (d.it.kind=6)=true:=decide_eq_true k6
     rcases Classical.em (e'=0)with h'|h'
     ·subst h'
      rw[if_neg (by simp)]at hR
      simp only at hR
      rw[hcs]at hR
      (repeat' (first|(with_reducible first|refine ab hV ?_|refine ab hO ?_|refine ab hO2 ?_|refine ab hF ?_)|simp only[EVz,seval,↓reduceIte,EV6,EV7,hm1,Option.getD_some,Option.isSome_some,ai,e1,e2,e3,hne]|simp only[EVz,seval,↓reduceIte,EV6,EV7,hm1,Option.getD_some,Option.isSome_some,ai,e1,e2,e3]|(with_reducible intro blk hblk;(try(have hnx:=hblk;simp only[EVK]at hnx;first|(have hne:=AI hnx hne)|(have hne:=hnx))))|(refine az [] _ hD.v (aB.rfl' _) (SubN.refl _) (λr σ' hh hnd=>?_);obtain⟨bm,rfl,rfl⟩:=hh;(have hne:=hnd);(try simp[Store.keys]at hne))|(refine aI bO (l:=fS) (k:=d.it.kind) (z:=.nilFunc) (zv:=.sc .nilFunc) (eT:=83) rfl (ct _) (by kernel_rfl) (by exact bf) (by kernel_rfl) et ?_)|fail))
      all_goals exact RQ hR
     ·rw[if_pos ⟨k6,h'⟩]at hR
      simp only at hR
      rw[hcs]at hR
      (repeat' (first|(with_reducible (refine ae (λh=>?_) (λh=>?_))<;>(try simp only[Da,Db,Dc,Dw,De,Df,Dg,Dh]at h))|(with_reducible first|refine ab hV ?_|refine ab hO ?_|refine ab hO2 ?_|refine ab hF ?_)|simp only[EVz,seval,↓reduceIte,EV6,EV7,hm1,Option.getD_some,Option.isSome_some,ai,e1,e2,e3,h',hne]|simp only[EVz,seval,↓reduceIte,EV6,EV7,hm1,Option.getD_some,Option.isSome_some,ai,e1,e2,e3,h']|(with_reducible intro blk hblk;(try(have hnx:=hblk;simp only[EVK]at hnx;first|(have hne:=AI hnx hne)|(have hne:=hnx))))|(refine az [] _ hD.v (aB.rfl' _) (SubN.refl _) (λr σ' hh hnd=>?_);obtain⟨bm,rfl,rfl⟩:=hh;(have hne:=hnd);(try simp[Store.keys]at hne))|(refine aI bO (l:=fS) (k:=d.it.kind) (z:=.nilFunc) (zv:=.sc .nilFunc) (eT:=83) rfl (ct _) (by kernel_rfl) (by exact bf) (by kernel_rfl) et ?_)|(exfalso;omega)|fail))
      all_goals exact RQ hR
    ·have e3:decide (d.it.kind=6)=false:=decide_eq_false k6
     rw[if_neg (λh=>k6 h.1)]at hR
     simp only at hR
     rw[hcs]at hR
     (repeat' (first|(with_reducible first|refine ab hV ?_|refine ab hO ?_|refine ab hF ?_)|simp only[EVz,seval,↓reduceIte,EV6,EV7,hm1,Option.getD_some,Option.isSome_some,ai,e1,e2,e3,hne]|simp only[EVz,seval,↓reduceIte,EV6,EV7,hm1,Option.getD_some,Option.isSome_some,ai,e1,e2,e3]|(with_reducible intro blk hblk;(try(have hnx:=hblk;simp only[EVK]at hnx;first|(have hne:=AI hnx hne)|(have hne:=hnx))))|(refine az [] _ hD.v (aB.rfl' _) (SubN.refl _) (λr σ' hh hnd=>?_);obtain⟨bm,rfl,rfl⟩:=hh;(have hne:=hnd);(try simp[Store.keys]at hne))|(refine aI bO (l:=fS) (k:=d.it.kind) (z:=.nilFunc) (zv:=.sc .nilFunc) (eT:=83) rfl (ct _) (by kernel_rfl) (by exact bf) (by kernel_rfl) et ?_)|fail))
     all_goals exact RQ hR
  ·rw[if_pos h]at hR
   rw[hcs]at hO hR ⊢
   (repeat' (first|(with_reducible (refine ae (λh=>?_) (λh=>?_))<;>(try simp only[Da,Db,Dc,Dw,De,Df,Dg,Dh]at h))|(with_reducible first|refine ab hV ?_|refine ab hO ?_)|simp only[EVz,seval,↓reduceIte,EV6,EV7,hm1,Option.getD_some,Option.isSome_some,h,hne]|simp only[EVz,seval,↓reduceIte,EV6,EV7,hm1,Option.getD_some,Option.isSome_some,h]|(with_reducible intro blk hblk;(try(have hnx:=hblk;simp only[EVK]at hnx;first|(have hne:=AI hnx hne)|(have hne:=hnx))))|(refine az [] _ hD.v (aB.rfl' _) (SubN.refl _) (λr σ' hh hnd=>?_);obtain⟨bm,rfl,rfl⟩:=hh;(have hne:=hnd);(try simp[Store.keys]at hne))|(refine aI bO (l:=fS) (k:=d.it.kind) (z:=.nilFunc) (zv:=.sc .nilFunc) (eT:=83) rfl (ct _) (by kernel_rfl) (by exact bf) (by kernel_rfl) et ?_)|(exfalso;omega)|fail))
   all_goals exact RQ hR
end
end Go.Av
