/-
  ENACT, M27: a unit taken out; words, heading and label changed.
-/
import Derived.Test.YtnoakpkjccigoaaGreatDoorXM25toXV2
import Derived.Test.YtnoakpkjccigoaaGreatDoorXV3toXM20
namespace Go.Av
open Go Go.RowKit Go.Proofs List
set_option linter.unusedSimpArgs false
set_option linter.unusedVariables false
theorem ei {u:U} (h:Good u) (i:Idd) (q:U×Nat×Nat) (e:aF i u=some q):q.2.2<q.1.kids.length/\q.1.kids.length<=64/\Par i u q.1 q.2.1 q.2.2:=by
 by_cases hi:i∈u.ids
 ·obtain⟨p,d,j⟩:=q
  have hp:=et u h.nd hi e
  obtain⟨a,k,b,s,_,hj,_⟩:=hp.split
  have hm:=aP u h.nd hp.mem
  rw[hp.fnd]at hm
  refine⟨?_,cT (h.node p hm),hp⟩
  show j<p.kids.length
  rw[s.eq,hj,length_append,length_cons];omega
 ·unfold aF at e
  rw[(cO u).2 hi]at e
  simp at e
theorem good_hk {u:U} (h:Good u):∀i q,aF i u=some q->q.2.2<1000000:=λi q e=>by
 obtain⟨h1,h2,_⟩:=ei h i q e
 omega
theorem gq {u:U} (h:Good u) (i:Idd):(fnd i u).kids.length<=64:=by
 by_cases hi:i∈u.ids
 ·exact cT (h.node _ (aP u h.nd hi))
 ·unfold fnd
  rw[(cO u).2 hi]
  simp[noU]
theorem nj {u:U} (h:Good u):∀i w q,spot u i w=some q->q.2<1000000:=λi w q e=>by
 unfold spot at e
 split at e
 ·injection e with e;subst e;simp
 ·split at e
  ·injection e with e;subst e
   have:=gq h i
   simp only;omega
  ·cases hw:aF i u with
   |none=>rw[hw]at e;cases e
   |some r=>
    rw[hw]at e
    obtain⟨h1,h2,_⟩:=ei h i r hw
    injection e with e;subst e
    simp only
    split<;>omega
section
variable (G:Glob)
theorem f156 (u:U) (hu:Good u) (i:Idd) (hi:i∈u.ids) (hne0:u.id≠i):Pure G Tryz.prog 156 [.agg u.cs,.agg i.cs] (.agg (without i u).cs):=by
 have hs:=hu.short
 obtain⟨p,d,j,e1,e2,e3⟩:=bt hu.nd hi hne0
 obtain⟨hj,hk64,_⟩:=ei hu i _ e1
 simp only at hj hk64
 have hP:=f131 G i u hs hu.nd
 unfold gW at hP
 rw[e1]at hP
 have hW:=λbn=>f153 G _ _ _ p.id u hs hu.nd e3.mem (by rw[e3.fnd];exact d244 G bn j p hj (by omega))
 have hwo:without i u=U.wth p.id (λy=>{y with kids:=delAt y.kids j}) u:=by unfold without;rw[e1]
 rw[hwo]
 simp only[Idd.cs]at hP hW
 refine Pure.w c156 λR hR=>?_
 unfold s156 r156
 (repeat' (first|(with_reducible refine aa hP ?_)|simp only[EVz,seval,↓reduceIte,EV6,EV7,hne]|simp only[EVz,seval,↓reduceIte,EV6,EV7]|(with_reducible intro blk hblk;(try(have hnx:=hblk;simp only[EVK]at hnx;first|(have hne:=AI hnx hne)|(have hne:=hnx))))|(refine aT [(blk,_)] [(_,_),(_,_)] (hW blk).v (ax.rfl' _) (SubN.refl _) (λr1 σ1 hr hnd2=>?_))|(obtain⟨rfl,rfl⟩:=hr)|(refine⟨_,SubN.refl _,?_⟩)|fail))
 all_goals exact RQ hR
theorem f93 (u:U) (hu:Good u) (x:U) (hi:x.id∈u.ids) (hne0:u.id≠x.id) (d:Dd):Pure G Tryz.prog 93 [.agg u.cs,.agg x.cs,.agg d.cs] (aO (without x.id u,0)):=by
 have hW:=f156 G u hu x.id hi hne0
 simp only[Idd.cs]at hW
 unfold Dd.cs
 rw[U.cs_eq x,Itm.cs_eq]
 refine Pure.w c93 λR hR=>?_
 unfold s93 r93
 (repeat' (first|(with_reducible refine aa hW ?_)|simp only[EVz,seval,↓reduceIte,EV6,EV7,hne]|simp only[EVz,seval,↓reduceIte,EV6,EV7]|(with_reducible intro blk hblk;(try(have hnx:=hblk;simp only[EVK]at hnx;(have hne:=hnx))))|fail))
 all_goals exact RQ hR
theorem f94 (u:U) (hu:Good u) (x:U) (hi:x.id∈u.ids) (d:Dd) (hw:x.words.length<=256) (hk:d.it.kind=2) (ho:d.it.old≠[]) (hol:d.it.old.length<=256) (hnl:d.it.new.length<=256) (hn:0<=d.it.nth/\d.it.nth<=256):
  Pure G Tryz.prog 94 [.agg u.cs,.agg x.cs,.agg d.cs] (aO (if (bJ x.words d.it d.act d.item).2≠0 then (u,(bJ x.words d.it d.act d.item).2)else (U.wth x.id (λy=>{y with words:=(bJ x.words d.it d.act d.item).1}) u,0))):=by
 have hs:=hu.short
 have hE:=f157 G x.words d.it d.act d.item hw hk ho hol hnl hn
 unfold iX at hE
 obtain⟨⟨w,e⟩,hwe⟩:∃q,bJ x.words d.it d.act d.item=q:=⟨_,rfl⟩
 rw[hwe]at hE ⊢
 have hW:=λbw=>f153 G _ _ _ x.id u hs hu.nd hi (d158 G bw w _)
 simp only[Idd.cs]at hW hE
 unfold Dd.cs
 rw[U.cs_eq x,Itm.cs_eq]
 refine Pure.w c94 λR hR=>?_
 unfold s94 r94
 simp only at hR
 rcases Classical.em (e=0)with h|h
 ·subst h
  rw[if_neg (by simp)]at hR
  (repeat' (first|(with_reducible refine aa hE ?_)|simp only[EVz,seval,↓reduceIte,EV6,EV7,hne]|simp only[EVz,seval,↓reduceIte,EV6,EV7]|(with_reducible intro blk hblk;(try(have hnx:=hblk;simp only[EVK]at hnx;first|(have hne:=AI hnx hne)|(have hne:=hnx))))|(refine aT [(blk,_)] [(_,_)] (hW blk).v (ax.rfl' _) (SubN.refl _) (λr1 σ1 hr hnd2=>?_))|(obtain⟨rfl,rfl⟩:=hr)|(refine⟨_,SubN.refl _,?_⟩)|fail))
  all_goals exact RQ hR
 ·rw[if_pos h]at hR
  (repeat' (first|(with_reducible (refine ab (λh=>?_) (λh=>?_))<;>(try simp only[Da,Db,Dc,Dw,De,Df,Dg,Dh]at h))|(with_reducible refine aa hE ?_)|simp only[EVz,seval,↓reduceIte,EV6,EV7,h,hne]|simp only[EVz,seval,↓reduceIte,EV6,EV7,h]|(with_reducible intro blk hblk;(try(have hnx:=hblk;simp only[EVK]at hnx;first|(have hne:=AI hnx hne)|(have hne:=hnx))))|(exfalso;omega)|fail))
  all_goals exact RQ hR
theorem f95 (u:U) (hu:Good u) (x:U) (hi:x.id∈u.ids) (d:Dd) (hw:x.words.length<=256) (hk:d.it.kind=3) (hol:d.it.old.length<=256) (hnl:d.it.new.length<=256) (hn1:1<=d.it.new.length) (hn:0<=d.it.nth/\d.it.nth<=256) (h0n:d.it.old=[]->d.it.nth=0):
  Pure G Tryz.prog 95 [.agg u.cs,.agg x.cs,.agg d.cs] (aO (if (bJ x.words d.it d.act d.item).2≠0 then (u,(bJ x.words d.it d.act d.item).2)else (U.wth x.id (λy=>{y with words:=(bJ x.words d.it d.act d.item).1}) u,0))):=by
 have hs:=hu.short
 have hE:=f159 G x.words d.it d.act d.item hw hk hol hnl hn1 hn h0n
 unfold iX at hE
 obtain⟨⟨w,e⟩,hwe⟩:∃q,bJ x.words d.it d.act d.item=q:=⟨_,rfl⟩
 rw[hwe]at hE ⊢
 have hW:=λbw=>f153 G _ _ _ x.id u hs hu.nd hi (d160 G bw w _)
 simp only[Idd.cs]at hW hE
 unfold Dd.cs
 rw[U.cs_eq x,Itm.cs_eq]
 refine Pure.w c95 λR hR=>?_
 unfold s95 r95
 simp only at hR
 rcases Classical.em (e=0)with h|h
 ·subst h
  rw[if_neg (by simp)]at hR
  (repeat' (first|(with_reducible refine aa hE ?_)|simp only[EVz,seval,↓reduceIte,EV6,EV7,hne]|simp only[EVz,seval,↓reduceIte,EV6,EV7]|(with_reducible intro blk hblk;(try(have hnx:=hblk;simp only[EVK]at hnx;first|(have hne:=AI hnx hne)|(have hne:=hnx))))|(refine aT [(blk,_)] [(_,_)] (hW blk).v (ax.rfl' _) (SubN.refl _) (λr1 σ1 hr hnd2=>?_))|(obtain⟨rfl,rfl⟩:=hr)|(refine⟨_,SubN.refl _,?_⟩)|fail))
  all_goals exact RQ hR
 ·rw[if_pos h]at hR
  (repeat' (first|(with_reducible (refine ab (λh=>?_) (λh=>?_))<;>(try simp only[Da,Db,Dc,Dw,De,Df,Dg,Dh]at h))|(with_reducible refine aa hE ?_)|simp only[EVz,seval,↓reduceIte,EV6,EV7,h,hne]|simp only[EVz,seval,↓reduceIte,EV6,EV7,h]|(with_reducible intro blk hblk;(try(have hnx:=hblk;simp only[EVK]at hnx;first|(have hne:=AI hnx hne)|(have hne:=hnx))))|(exfalso;omega)|fail))
  all_goals exact RQ hR
theorem f96 (u:U) (hu:Good u) (x:U) (hi:x.id∈u.ids) (d:Dd) (hnl:d.it.new.length<=256):
  Pure G Tryz.prog 96 [.agg u.cs,.agg x.cs,.agg d.cs] (aO (U.wth x.id (λy=>{y with head:=aX d.act d.item d.it.new 0}) u,0)):=by
 have hs:=hu.short
 have hE:=f161 G d.it.new d.act d.item 0 (by omega) (by omega) (by omega)
 obtain⟨w,hwe⟩:∃q,aX d.act d.item d.it.new 0=q:=⟨_,rfl⟩
 rw[hwe]at hE ⊢
 have hW:=λbw=>f153 G _ _ _ x.id u hs hu.nd hi (d162 G bw w _)
 simp only[Idd.cs]at hW hE
 unfold Dd.cs
 rw[U.cs_eq x,Itm.cs_eq]
 refine Pure.w c96 λR hR=>?_
 unfold s96 r96
 (repeat' (first|(with_reducible refine aa hE ?_)|simp only[EVz,seval,↓reduceIte,EV6,EV7,hne]|simp only[EVz,seval,↓reduceIte,EV6,EV7]|(with_reducible intro blk hblk;(try(have hnx:=hblk;simp only[EVK]at hnx;first|(have hne:=AI hnx hne)|(have hne:=hnx))))|(refine aT [(blk,_)] [(_,_)] (hW blk).v (ax.rfl' _) (SubN.refl _) (λr1 σ1 hr hnd2=>?_))|(obtain⟨rfl,rfl⟩:=hr)|(refine⟨_,SubN.refl _,?_⟩)|fail))
 all_goals exact RQ hR
variable (hG:GOk G)
include hG
theorem f97 (u:U) (hu:Good u) (x:U) (hx:x=fnd x.id u) (hi:x.id∈u.ids) (hne0:u.id≠x.id) (d:Dd):
  Pure G Tryz.prog 97 [.agg u.cs,.agg x.cs,.agg d.cs] (aO (if dR (parR x.id u).1 (parR x.id u).1.kids {x with label:=d.it.label}=10 then (u,10)else (U.wth x.id (λy=>{y with label:=d.it.label}) u,0))):=by
 have hs:=hu.short
 obtain⟨p,dd,j,e1,e2,e3⟩:=bt hu.nd hi hne0
 obtain⟨hj,hk64,_⟩:=ei hu _ _ e1
 simp only at hj hk64
 have hP:=f131 G x.id u hs hu.nd
 unfold gW at hP
 rw[e1]at hP
 have hF:=f44 G p.id u hs
 unfold gV at hF
 rw[fG e3.mem,if_neg (by simp),e3.fnd]at hF
 have hT:=f146 G hG p {x with label:=d.it.label} (by omega)
 have hW:=λbd=>f153 G _ _ _ x.id u hs hu.nd hi (d163 G bd d _)
 rw[e2]
 simp only
 obtain⟨t,ht⟩:∃t,dR p p.kids {x with label:=d.it.label}=t:=⟨_,rfl⟩
 rw[ht]at hT ⊢
 rw[U.cs_eq {x with label:=d.it.label}]at hT
 simp only[Idd.cs]at hW hP hF hT
 unfold Dd.cs at hW ⊢
 rw[Itm.cs_eq]at hW ⊢
 rw[U.cs_eq x]
 refine Pure.w c97 λR hR=>?_
 unfold s97 r97
 rcases Classical.em (t=10)with h|h
 ·subst h
  rw[if_pos rfl]at hR
  (repeat' (first|(with_reducible first|refine aa hP ?_|refine aa hF ?_|refine aa hT ?_)|simp only[EVz,seval,↓reduceIte,EV6,EV7,hne]|simp only[EVz,seval,↓reduceIte,EV6,EV7]|(with_reducible intro blk hblk;(try(have hnx:=hblk;simp only[EVK]at hnx;first|(have hne:=AI hnx hne)|(have hne:=hnx))))|fail))
  all_goals exact RQ hR
 ·rw[if_neg h]at hR
  (repeat' (first|(with_reducible first|refine aa hP ?_|refine aa hF ?_|refine aa hT ?_)|simp only[EVz,seval,↓reduceIte,EV6,EV7,h,hne]|simp only[EVz,seval,↓reduceIte,EV6,EV7,h]|(with_reducible intro blk hblk;(try(have hnx:=hblk;simp only[EVK]at hnx;first|(have hne:=AI hnx hne)|(have hne:=hnx))))|fail))
  rename_i b4 _ _ _ b5 _ _ _ b6 _ _ _ b8 _ _ _
  refine aT [(b5,_)] [_,_,_,_] (hW b5).v (ax.rfl' _) (SubN.perm (perm_middle (l₁:=[_,_,_]) (l₂:=[_])).symm) (λr1 σ1 hr hnd2=>?_)
  obtain⟨rfl,rfl⟩:=hr
  refine⟨_,SubN.refl _,?_⟩
  have q1:¬b5=b6:=by have:=hne;intro e;subst e;simp at this
  (repeat' (simp only[EVz,seval,↓reduceIte,EV6,EV7,q1,hne]))
  all_goals exact RQ hR
end
theorem pa {G:Glob} {P:Program} {f:Value} {args:List AV} {x:Nat×AObj} {σ:Store} {K:AV->Store->Prop} {t:Tag K} {v:AV}
  (h:cd G P f args [x] λr σ'=>r=v/\σ'=[x]) (hk:K v (x::σ)):CALL G P f args (x::σ) K t:=
 aZ [x] σ h (ax.rfl' _) (SubN.refl _) (by rintro _ _ ⟨rfl,rfl⟩;exact hk)
theorem spot_le {u:U} (h:Good u) {i q:Idd} {wh:Int} {k:Nat} (e:spot u i wh=some (q,k)):k<=(fnd q u).kids.length:=by
 unfold spot at e
 split at e
 ·injection e with e;injection e with e1 e2;omega
 ·split at e
  ·injection e with e;injection e with e1 e2;subst e1;omega
  ·obtain⟨⟨p,d,j⟩,e1,e2⟩:=Option.map_eq_some_iff.1 e
   obtain⟨h1,h2,h3⟩:=ei h i _ e1
   injection e2 with e3 e4
   subst e3
   rw[h3.fnd]
   show k<=p.kids.length
   change j<p.kids.length at h1
   simp only at e4
   split at e4<;>omega
theorem mh {u:U} {q:Idd} (hq:q∈u.ids):(anc q u).length+1=(U.way q u).length:=by
 unfold anc
 rw[length_reverse,length_map,length_dropLast]
 have:=gH hq
 omega
theorem SubN.six {n x a b c d:Nat×AObj}:SubN [n,x,a,b,c,d] [a,x,b,n,c,d]:=
 SubN.perm ((perm_middle (l₁:=[a,x,b]) (l₂:=[c,d])).trans (List.Perm.cons _ (List.Perm.swap _ _ _))).symm
section
variable (G:Glob) (hG:GOk G)
include hG
set_option maxHeartbeats 4000000 in
theorem f92 (u:U) (hu:Good u) (y:U) (d:Dd) (i:Idd) (hO:one u d.it.at_=(i,0)) (hk0:d.it.kind=0) (h0:0<=d.it.wh) (h3:d.it.wh<=3) (hd:Unit0 d) (hp:d.it.at_.length<1000000) (hp2:d.it.to_.length<1000000):
  Pure G Tryz.prog 92 [.agg u.cs,.agg y.cs,.agg d.cs] (aO (insP u i d)):=by
 have hs:=hu.short
 have hcu:=hu.cnt
 have hi:i∈u.ids:=by have:=bZ (u:=u) (p:=d.it.at_);rw[hO]at this;exact this rfl
 have hDe:=f144 G u d.it hs hcu hu.nd (good_hk hu) (nj hu) (.inl hk0) h0 h3 hp hp2
 have hde:dest u d.it=(match spot u i d.it.wh with|none=>.inr 9|some q=>.inl q):=by
  unfold dest
  rw[hO]
  simp[hk0]
  rfl
 rw[hde]at hDe
 unfold insP
 have hsm:=λq k=>iy (q:=q) (k:=k) hu.nd hi (wh:=d.it.wh)
 have hsl:=λq k=>spot_le (q:=q) (k:=k) (i:=i) (wh:=d.it.wh) hu
 obtain⟨z,hz⟩:∃z,spot u i d.it.wh=z:=⟨_,rfl⟩
 rw[hz]at hDe hsm hsl ⊢
 unfold cI at hDe
 unfold Dd.cs
 rw[U.cs_eq y]
 rcases z with _|⟨q,k⟩
 ·refine Pure.w c92 λR hR=>?_
  unfold s92 r92
  unfold aO at hR
  simp only at hDe hR
  rw[Itm.cs_eq]at hDe ⊢
  (repeat' (first|(with_reducible refine aa hDe ?_)|simp only[EVz,seval,↓reduceIte,EV6,EV7,hne]|simp only[EVz,seval,↓reduceIte,EV6,EV7]|(with_reducible intro blk hblk;(try(have hnx:=hblk;simp only[EVK]at hnx;first|(have hne:=AI hnx hne)|(have hne:=hnx))))|fail))
  all_goals exact RQ hR
 ·have hq:=hsm q k rfl
  have hkl:=hsl q k rfl
  simp only at hDe ⊢
  have hus:=gc hd.nodes (by have:=hd.cnt;omega)
  have hSt:=f145 G d.it.unit d.act d.item hus (by have h1:=wt_le hd.nodes;have h2:=hd.cnt;omega)
  obtain⟨s1,s2,s3,s4,s5⟩:=je d.it.unit d.act d.item hd.nodes
  obtain⟨x,hx⟩:∃x,cz d.it.unit d.act d.item=x:=⟨_,rfl⟩
  rw[hx]at hSt s1 s2 s3 s4 s5 ⊢
  have hxs:x.Short:=gc s5 (by rw[s3];have:=hd.cnt;omega)
  have hF:=f44 G q u hs
  unfold gV at hF
  rw[fG hq,if_neg (by simp)]at hF
  have hfk:=gq hu q
  have hanc:=mh hq
  have hDp:=f147 G u q x hs.1 hxs.1
  have hCu:=f148 G u hs.1
  have hCx:=f148 G x hxs.1
  have hIu:=f149 G u hs.1
  have hIx:=f149 G x hxs.1
  have hT:=f146 G hG (fnd q u) x (by omega)
  have hxl:x.ids.length=x.flat.length:=by unfold U.ids;rw[length_map]
  have hul:u.ids.length=u.flat.length:=by unfold U.ids;rw[length_map]
  have hxf:x.flat.length<=1024:=by rw[s3];exact hd.cnt
  have hCF:=λbh=>f150k G [(bh,.cells 115 [.lst 3 (u.ids.map Idd.cs)])] (.func (.func 151) #[] #[.pointer (some ⟨bh,0,none⟩)]) (λk=>decide (k∈u.ids)) x.ids (by omega)
   (λw _=>⟨_,_,_,rfl,f151 G bh u.ids w (by omega)⟩)
  have hW:=λbn bx=>f153 G _ _ _ q u hs hu.nd hq (d154 G bn bx k x _ hkl (by omega))
  have hcx2:(0:Int)<=x.cnt/\x.cnt<=1024:=by unfold U.cnt;omega
  have hcu2:(0:Int)<=u.cnt/\u.cnt<=1024:=by unfold U.cnt;omega
  have w3:IntKind.i64.wrap (u.cnt+x.cnt)=u.cnt+x.cnt:=aA (by omega) (by omega)
  rw[←hanc]
  clear s1 s2 s4 hde hsm hsl hfk
  obtain⟨P,hP⟩:∃P,fnd q u=P:=⟨_,rfl⟩
  rw[hP]at hF hT hkl ⊢
  obtain⟨t,ht⟩:∃t,dR P P.kids x=t:=⟨_,rfl⟩
  rw[ht]at hT ⊢
  obtain⟨an,han⟩:∃an,(anc q u).length=an:=⟨_,rfl⟩
  rw[han]at hDp ⊢
  obtain⟨ex,hex⟩:∃ex,x.ids.any (λk=>decide (k∈u.ids))=ex:=⟨_,rfl⟩
  rw[hex]at hCF ⊢
  simp only[Idd.cs]at hF hDp hW
  rw[U.cs_eq P]at hF hT
  unfold aO
  rw[show(((an+1:Nat):Int))=(an:Int)+1 by omega]
  refine Pure.w c92 λR hR=>?_
  unfold s92 r92
  rw[Itm.cs_eq]at hDe ⊢
  rw[U.cs_eq d.it.unit]at hSt
  rcases Classical.em (t=0)with h|h
  ·subst h
   rw[if_neg (by simp)]at hR
   (repeat' (first|(with_reducible (first|refine ab (λh=>?_) (λh=>?_)|refine ai (λh=>?_) (λh=>?_))<;>(try simp only[Da,Db,Dc,Dw,De,Df,Dg,Dh]at h))|(with_reducible first|refine aa hDe ?_|refine aa hF ?_|refine aa hSt ?_|refine aa hT ?_|refine aa hDp ?_|refine aa hCu ?_|refine aa hCx ?_|refine aa hIu ?_|refine aa hIx ?_)|simp only[EVz,seval,↓reduceIte,EV6,EV7,w3,hne]|simp only[EVz,seval,↓reduceIte,EV6,EV7,w3]|(with_reducible intro blk hblk;(try(have hnx:=hblk;simp only[EVK]at hnx;first|(have hne:=AI hnx hne)|(have hne:=hnx))))|(with_reducible refine ae ?_ ?_)|(with_reducible refine af ?_)|(refine pa (hCF blk).v ?_)|fail))
   all_goals try(
    refine hR _ _ (.inl (.inl ?_))
    rw[if_pos (by first|exact .inl (by omega)|exact .inr (.inl (by omega))|exact .inr (.inr (by omega)))]
    done)
   all_goals
    have hno:¬(64<=P.kids.length\/8<(an:Int)+1+x.dep\/1024<u.cnt+x.cnt):=by omega
    rw[if_neg hno]at hR
   all_goals try(
    refine hR _ _ (.inl (.inl ?_))
    rw[if_pos (by assumption)]
    done)
   all_goals
    have hexf:ex=false:=by assumption
    rw[hexf]at hR
    simp only[Bool.false_eq_true,if_false]at hR
    refine aT [(_,_),(_,_)] [_,_,_,_] (hW _ _).v (ax.rfl' _) SubN.six (λr1 σ1 hr hnd2=>?_)
    obtain⟨rfl,rfl⟩:=hr
    refine⟨_,SubN.refl _,?_⟩
    (repeat' (simp only[EVz,seval,↓reduceIte,EV6,EV7,hne]))
    all_goals exact RQ hR
  ·rw[if_pos h]at hR
   (repeat' (first|(with_reducible (first|refine ab (λh=>?_) (λh=>?_)|refine ai (λh=>?_) (λh=>?_))<;>(try simp only[Da,Db,Dc,Dw,De,Df,Dg,Dh]at h))|(with_reducible first|refine aa hDe ?_|refine aa hF ?_|refine aa hSt ?_|refine aa hT ?_)|simp only[EVz,seval,↓reduceIte,EV6,EV7,h,hne]|simp only[EVz,seval,↓reduceIte,EV6,EV7,h]|(with_reducible intro blk hblk;(try(have hnx:=hblk;simp only[EVK]at hnx;first|(have hne:=AI hnx hne)|(have hne:=hnx))))|(with_reducible refine ae ?_ ?_)|(with_reducible refine af ?_)|(exfalso;omega)|fail))
   all_goals exact RQ hR
end
theorem cU (f:Value) (b:Bool) (e:Int) (l:List (Value×Bool×Int)):cc ((f,b,e)::l)=if b=true then e else cc l:=rfl
theorem lev_anc {u:U} {q:Idd} (hq:q∈u.ids):lev u q=((anc q u).length:Int):=by
 have:=mh hq
 unfold lev
 omega
theorem oo (u:U) (q:Idd) (k:Int) (x:U) (f1 f2 f3 f4 f5 f6:Value) (hu:stP u=true) (hx:stP x=true) (h0:x.kind≠0):
  cc [(f1,!hasP q u,4),(f2,!nests (fnd q u).kind x.kind,9),(f3,(decide (k<0)||decide (((fnd q u).kids.length:Int)<k)),3),(f4,taken (fnd q u).kids x.kind x.label,10),
   (f5,(decide (64<=((fnd q u).kids.length:Int))||(decide (8<((anc q u).length:Int)+1+x.dep)||decide (1024<u.cnt+x.cnt))),6),(f6,x.ids.any (λy=>hasP y u),5)]=en u q k x:=by
 unfold en
 rw[if_neg (by rw[hu,hx];simp[h0])]
 simp only[cU,cc]
 by_cases hq:q∈u.ids
 ·have e1:¬(!hasP q u)=true:=by simp[hasP,hq]
  have e2:¬q∉u.ids:=λh=>h hq
  rw[if_neg e1,if_neg e2,lev_anc hq]
  by_cases c1:nests (fnd q u).kind x.kind=false
  ·have d1:(!nests (fnd q u).kind x.kind)=true:=by rw[c1];rfl
   rw[if_pos d1,if_pos c1]
  have d1:¬(!nests (fnd q u).kind x.kind)=true:=by simpa using c1
  rw[if_neg d1,if_neg c1]
  by_cases c2:k<0\/((fnd q u).kids.length:Int)<k
  ·have d2:(decide (k<0)||decide (((fnd q u).kids.length:Int)<k))=true:=by simpa using c2
   rw[if_pos d2,if_pos c2]
  have d2:¬(decide (k<0)||decide (((fnd q u).kids.length:Int)<k))=true:=by simpa using c2
  rw[if_neg d2,if_neg c2]
  by_cases c3:taken (fnd q u).kids x.kind x.label=true
  ·rw[if_pos c3,if_pos c3]
  rw[if_neg c3,if_neg c3]
  by_cases c4:64<=(fnd q u).kids.length\/8<((anc q u).length:Int)+1+x.dep\/1024<u.cnt+x.cnt
  ·have d4:(decide (64<=((fnd q u).kids.length:Int))||(decide (8<((anc q u).length:Int)+1+x.dep)||decide (1024<u.cnt+x.cnt)))=true:=by simp only[Bool.or_eq_true,decide_eq_true_eq];omega
   rw[if_pos d4,if_pos c4]
  have d4:¬(decide (64<=((fnd q u).kids.length:Int))||(decide (8<((anc q u).length:Int)+1+x.dep)||decide (1024<u.cnt+x.cnt)))=true:=by simp only[Bool.or_eq_true,decide_eq_true_eq];omega
  rw[if_neg d4,if_neg c4]
  rfl
 ·have e1:(!hasP q u)=true:=by simp[hasP,hq]
  rw[if_pos e1,if_pos hq]
theorem rem_first (u:U) (i:Idd) (f1 f2 f3:Value):cc [(f1,!stP u,1),(f2,!hasP i u,4),(f3,decide (u.id=i),9)]=(remT u i).2:=by
 unfold remT
 simp only[cU,cc]
 cases hs:stP u with
 |false=>rfl
 |true=>
  have e0:¬(!true)=true:=by simp
  have e00:¬(true=false):=by simp
  rw[if_neg e0,if_neg e00]
  by_cases hi:i∈u.ids
  ·have e1:¬(!hasP i u)=true:=by simp[hasP,hi]
   have e2:¬i∉u.ids:=λh=>h hi
   rw[if_neg e1,if_neg e2]
   by_cases h0:u.id=i
   ·rw[if_pos (decide_eq_true h0),if_pos h0]
   ·have e3:¬decide (u.id=i)=true:=by simpa using h0
    rw[if_neg e3,if_neg h0]
  ·have e1:(!hasP i u)=true:=by simp[hasP,hi]
   rw[if_pos e1,if_pos hi]
theorem kf (u:U) (i q:Idd) (f1 f2:Value):cc [(f1,!stP u,1),(f2,(!hasP i u|| !hasP q u),4)]=(if stP u=false then 1 else if i∉u.ids\/q∉u.ids then 4 else 0):=by
 simp only[cU,cc]
 cases hs:stP u with
 |false=>rfl
 |true=>
  have e0:¬(!true)=true:=by simp
  have e00:¬(true=false):=by simp
  rw[if_neg e0,if_neg e00]
  by_cases hi:i∉u.ids\/q∉u.ids
  ·have e1:(!hasP i u|| !hasP q u)=true:=by simpa[hasP]using hi
   rw[if_pos hi,if_pos e1]
  ·have e1:¬(!hasP i u|| !hasP q u)=true:=by simpa[hasP]using hi
   rw[if_neg hi,if_neg e1]
theorem kb (P x:U) (k:Int) (n:Int) (f1 f2 f3:Value):cc [(f1,(decide (k<0)||decide ((P.kids.length:Int)<k)),3),(f2,taken P.kids x.kind x.label,10),(f3,(decide (64<=(P.kids.length:Int))||decide (8<n+1+x.dep)),6)]
  =(if k<0\/(P.kids.length:Int)<k then 3 else if taken P.kids x.kind x.label=true then 10 else if 64<=P.kids.length\/8<n+1+x.dep then 6 else 0):=by
 simp only[cU,cc]
 by_cases c2:k<0\/(P.kids.length:Int)<k
 ·have d2:(decide (k<0)||decide ((P.kids.length:Int)<k))=true:=by simpa using c2
  rw[if_pos d2,if_pos c2]
 have d2:¬(decide (k<0)||decide ((P.kids.length:Int)<k))=true:=by simpa using c2
 rw[if_neg d2,if_neg c2]
 by_cases c3:taken P.kids x.kind x.label=true
 ·rw[if_pos c3,if_pos c3]
 rw[if_neg c3,if_neg c3]
 by_cases c4:64<=P.kids.length\/8<n+1+x.dep
 ·have d4:(decide (64<=(P.kids.length:Int))||decide (8<n+1+x.dep))=true:=by simp only[Bool.or_eq_true,decide_eq_true_eq];omega
  rw[if_pos d4,if_pos c4]
 ·have d4:¬(decide (64<=(P.kids.length:Int))||decide (8<n+1+x.dep))=true:=by simp only[Bool.or_eq_true,decide_eq_true_eq];omega
  rw[if_neg d4,if_neg c4]
section
variable (G:Glob)
theorem f205 (b:Nat) (u:U) (hs:u.Short) (i:Idd):ag G Tryz.prog 205 [.agg i.cs,.sc (.pointer (some ⟨b,0,none⟩))] [(b,.cells 27 u.cs)] λr σ'=>r= .bool (hasP i u)/\σ'=[(b,.cells 27 u.cs)]:=by
 have hH:=f113 G i u hs
 simp only[Idd.cs]at hH
 refine ag.w c205 ?_
 unfold s205 r205
 rw[U.cs_eq u]at hH ⊢
 (repeat' (first|(with_reducible refine aa hH ?_)|simp only[EVz,seval,↓reduceIte,EV6,EV7]|fail))
 all_goals exact RET.keep rfl (SubN.refl _)
theorem f204 (bx bu:Nat) (u x:U) (hu:u.Short) (hx:x.Short):ag G Tryz.prog 204 [.sc (.pointer (some ⟨bx,0,none⟩)),.sc (.pointer (some ⟨bu,0,none⟩))] [(bx,.cells 27 x.cs),(bu,.cells 27 u.cs)] λr σ'=>r= .bool (x.ids.any λy=>hasP y u)/\σ'=[(bx,.cells 27 x.cs),(bu,.cells 27 u.cs)]:=by
 have hI:=f149 G x hx.1
 have hxl:x.ids.length<100000000:=by unfold U.ids;rw[length_map];have:=hx.1.2;omega
 have hC:=f150k G [(bu,.cells 27 u.cs)] (.func (.func 205) #[] #[.pointer (some ⟨bu,0,none⟩)]) (λy=>hasP y u) x.ids (by omega)
   (λy hy=>⟨_,_,_,rfl,f205 G bu u hu y⟩)
 refine ag.wn c204 λhnd=>?_
 unfold s204 r204
 rw[U.cs_eq u]at hC ⊢
 rw[U.cs_eq x]at hI ⊢
 (repeat' (first|(with_reducible refine aa hI ?_)|simp only[EVz,seval,↓reduceIte,EV6,EV7]|(refine ce hC.v (SubN.tail (SubN.refl _) _) ?_)|fail))
 all_goals exact RET.keep rfl (SubN.refl _)
theorem f207 (b:Nat) (t:Bool):ag G Tryz.prog 207 [.sc (.pointer (some ⟨b,0,none⟩))] [(b,.cells 4 [.bool t])] λr σ'=>r= .bool (!t)/\σ'=[(b,.cells 4 [.bool t])]:=by
 refine ag.w c207 ?_
 unfold s207 r207
 (repeat' (simp only[EVz,seval,↓reduceIte,EV6,EV7]))
 all_goals exact RET.keep rfl (SubN.refl _)
theorem f208 (hG:GOk G) (bp bx:Nat) (p x:U):ag G Tryz.prog 208 [.sc (.pointer (some ⟨bp,0,none⟩)),.sc (.pointer (some ⟨bx,0,none⟩))] [(bp,.cells 27 p.cs),(bx,.cells 27 x.cs)] λr σ'=>r= .bool (!nests p.kind x.kind)/\σ'=[(bp,.cells 27 p.cs),(bx,.cells 27 x.cs)]:=by
 have hC:=f122 G hG p.kind x.kind
 refine ag.wn c208 λhnd=>?_
 have q1:¬bp=bx:=by simp[Store.keys]at hnd;exact hnd
 have q2:¬bx=bp:=λe=>q1 e.symm
 unfold s208 r208
 rw[U.cs_eq p,U.cs_eq x]
 (repeat' (first|(with_reducible refine aa hC ?_)|simp only[EVz,seval,↓reduceIte,EV6,EV7,q1,q2]|fail))
 all_goals exact RET.keep rfl (SubN.refl _)
theorem f209 (bk bp:Nat) (k:Int) (p:U):ag G Tryz.prog 209 [.sc (.pointer (some ⟨bk,0,none⟩)),.sc (.pointer (some ⟨bp,0,none⟩))] [(bk,.cells 3 [.int .i64 k]),(bp,.cells 27 p.cs)] λr σ'=>r= .bool (decide (k<0)||decide ((p.kids.length:Int)<k))/\σ'=[(bk,.cells 3 [.int .i64 k]),(bp,.cells 27 p.cs)]:=by
 refine ag.wn c209 λhnd=>?_
 have q1:¬bk=bp:=by simp[Store.keys]at hnd;exact hnd
 have q2:¬bp=bk:=λe=>q1 e.symm
 unfold s209 r209
 rw[U.cs_eq p]
 (repeat' (first|(with_reducible (refine ai (λh=>?_) (λh=>?_))<;>(try simp only[Da,Db,Dc,Dw,De,Df,Dg,Dh]at h))|simp only[EVz,seval,↓reduceIte,EV6,EV7,q1,q2]|fail))
 all_goals(refine RET.keep ?_ (SubN.refl _);first|(simp[*];done)|(simp[*];omega))
theorem f210 (bp bx:Nat) (p x:U) (hp:p.kids.length<1000000):ag G Tryz.prog 210 [.sc (.pointer (some ⟨bp,0,none⟩)),.sc (.pointer (some ⟨bx,0,none⟩))] [(bp,.cells 27 p.cs),(bx,.cells 27 x.cs)] λr σ'=>r= .bool (taken p.kids x.kind x.label)/\σ'=[(bp,.cells 27 p.cs),(bx,.cells 27 x.cs)]:=by
 have hT:=f128 G p.kids x.kind x.label hp
 refine ag.wn c210 λhnd=>?_
 have q1:¬bp=bx:=by simp[Store.keys]at hnd;exact hnd
 have q2:¬bx=bp:=λe=>q1 e.symm
 unfold s210 r210
 rw[U.cs_eq p,U.cs_eq x]
 (repeat' (first|(with_reducible refine aa hT ?_)|simp only[EVz,seval,↓reduceIte,EV6,EV7,q1,q2]|fail))
 all_goals exact RET.keep rfl (SubN.refl _)
set_option maxHeartbeats 4000000 in
theorem f206 (bp bu bq bx:Nat) (p u x:U) (q:Idd) (hu:u.Short) (hcu:u.flat.length<=1000000) (hx:x.Short) (hcx:x.flat.length<=1000000) (hp:p.kids.length<1000000):
  ag G Tryz.prog 206 [.sc (.pointer (some ⟨bp,0,none⟩)),.sc (.pointer (some ⟨bu,0,none⟩)),.sc (.pointer (some ⟨bq,0,none⟩)),.sc (.pointer (some ⟨bx,0,none⟩))]
   [(bp,.cells 27 p.cs),(bu,.cells 27 u.cs),(bq,.cells 23 q.cs),(bx,.cells 27 x.cs)]
   λr σ'=>r= .bool (decide (64<=(p.kids.length:Int))||(decide (8<((anc q u).length:Int)+1+x.dep)||decide (1024<u.cnt+x.cnt)))/\σ'=[(bp,.cells 27 p.cs),(bu,.cells 27 u.cs),(bq,.cells 23 q.cs),(bx,.cells 27 x.cs)]:=by
 have hA:=f124 G q u hu
 have hD:=f125 G x hx.1
 have hCu:=f148 G u hu.1
 have hCx:=f148 G x hx.1
 simp only[Idd.cs]at hA
 have h1:(anc q u).length<=u.flat.length:=by
  unfold anc
  rw[length_reverse,length_map,length_dropLast]
  have:=eF q u
  omega
 have h3:=x.dep_cnt
 have h5:=x.dep_ge
 unfold U.cnt at h3
 have w1:IntKind.i64.wrap (((anc q u).length:Int)+1)=((anc q u).length:Int)+1:=aA (by omega) (by omega)
 have w2:IntKind.i64.wrap (((anc q u).length:Int)+1+x.dep)=((anc q u).length:Int)+1+x.dep:=aA (by omega) (by omega)
 have w3:IntKind.i64.wrap (u.cnt+x.cnt)=u.cnt+x.cnt:=by unfold U.cnt;exact aA (by omega) (by omega)
 obtain⟨an,han⟩:∃an,(anc q u).length=an:=⟨_,rfl⟩
 rw[han]at hA w1 w2 ⊢
 refine ag.wn c206 λhnd=>?_
 simp only[Store.keys,map_cons,map_nil,nodup_cons,mem_cons,not_mem_nil,or_false,not_or]at hnd
 obtain⟨⟨a1,a2,a3⟩,⟨a4,a5⟩,a6,_⟩:=hnd
 have b1:¬bu=bp:=λe=>a1 e.symm
 have b2:¬bq=bp:=λe=>a2 e.symm
 have b3:¬bx=bp:=λe=>a3 e.symm
 have b4:¬bq=bu:=λe=>a4 e.symm
 have b5:¬bx=bu:=λe=>a5 e.symm
 have b6:¬bx=bq:=λe=>a6 e.symm
 unfold s206 r206
 rw[U.cs_eq u]at hA hCu ⊢
 rw[U.cs_eq x]at hD hCx ⊢
 rw[U.cs_eq p]
 (repeat' (first|(with_reducible (refine ai (λh=>?_) (λh=>?_))<;>(try simp only[Da,Db,Dc,Dw,De,Df,Dg,Dh]at h))|(with_reducible first|refine aa hA ?_|refine aa hD ?_|refine aa hCu ?_|refine aa hCx ?_)|simp only[EVz,seval,↓reduceIte,EV6,EV7,w1,w2,w3,a1,a2,a3,a4,a5,a6,b1,b2,b3,b4,b5,b6]|(with_reducible refine ae ?_ ?_)|(with_reducible refine af ?_)|fail))
 all_goals(refine RET.keep (congrArg AV.bool ?_) (SubN.refl _);first|(rw[decide_eq_true (p:=(64:Int)<=_) (by omega)];rfl)|(rw[decide_eq_false (p:=(64:Int)<=_) (by omega),decide_eq_true (p:=(8:Int)<_) (by omega)];rfl)|(rw[decide_eq_false (p:=(64:Int)<=_) (by omega),decide_eq_false (p:=(8:Int)<_) (by omega)];rfl))
end
end Go.Av
