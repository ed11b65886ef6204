/-
  ENACT, M27: a unit taken out; words, heading and label changed.
-/
import Derived.Test.YtnoakpkjccigoaaGreatDoorVXN0toXM26
import Derived.Test.YtnoakpkjccigoaaGreatDoorVXV2toXM20
namespace Go.Av
open Go Go.RowKit Go.Proofs List
set_option linter.unusedSimpArgs false
set_option linter.unusedVariables false
theorem ei {u:U} (h:Good u) (i:Idd) (q:U×Nat×Nat) (e:aF i u=some q):q.2.2<q.1.kids.length/\q.1.kids.length<=64/\Par i u q.1 q.2.1 q.2.2:=by
 by_cases hi:i∈u.ids
 ·obtain⟨p,d,j⟩:=q
  have D:=et u h.nd hi e
  obtain⟨a,k,b,s,_,F,_⟩:=D.split
  have E:=aP u h.nd D.mem
  rw[D.fnd]at E
  refine⟨?_,cT (h.node p E),D⟩
  show j<p.kids.length
  rw[s.eq,F,length_append,length_cons];omega
 ·unfold aF at e
  rw[(cO u).2 hi]at e
  simp at e
theorem good_hk {u:U} (h:Good u):∀i q,aF i u=some q->q.2.2<1000000:=λi q e=>by
 obtain⟨D,E,_⟩:=ei h i q e
 omega
theorem gq {u:U} (h:Good u) (i:Idd):(fnd i u).kids.length<=64:=by
 by_cases hi:i∈u.ids
 ·exact cT (h.node _ (aP u h.nd hi))
 ·unfold fnd
  rw[(cO u).2 hi]
  simp[noU]
theorem nj {u:U} (h:Good u):∀i w q,spot u i w=some q->q.2<1000000:=λi w q e=>by
 unfold spot at e
 split at e
 ·injection e with e;subst e;simp
 ·split at e
  ·injection e with e;subst e
   have:=gq h i
   simp only;omega
  ·cases D:aF i u with
   |none=>rw[D]at e;cases e
   |some r=>
    rw[D]at e
    obtain⟨E,F,_⟩:=ei h i r D
    injection e with e;subst e
    simp only
    split<;>omega
section
variable (G:Glob)
theorem f156 (u:U) (N:Good u) (i:Idd) (hi:i∈u.ids) (M:u.id≠i):Pure G Tryz.prog 156 [.agg u.cs,.agg i.cs] (.agg (without i u).cs):=by
 have hs:=N.short
 obtain⟨p,d,j,T,e2,X⟩:=bt N.nd hi M
 obtain⟨Z,J,_⟩:=ei N i _ T
 simp only at Z J
 have O:=f131 G i u hs N.nd
 unfold gW at O
 rw[T]at O
 have Y:=λbn=>f153 G _ _ _ p.id u hs N.nd X.mem (by rw[X.fnd];exact d244 G bn j p Z (by omega))
 have V:without i u=U.wth p.id (λy=>{y with kids:=delAt y.kids j}) u:=by unfold without;rw[T]
 rw[V]
 simp only[Idd.cs]at O Y
 refine Pure.w c156 λR hR=>?_
 unfold s156 r156
 (repeat' (first|(with_reducible refine aa O ?_)|simp only[EVz,seval,↓reduceIte,EV6,EV7,D]|simp only[EVz,seval,↓reduceIte,EV6,EV7]|(with_reducible intro F I;(try(have E:=I;simp only[EVK]at E;first|(have D:=AI E D)|(have D:=E))))|(refine aT [(F,_)] [(_,_),(_,_)] (Y F).v (ax.rfl' _) (SubN.refl _) (λr1 ah hr ac=>?_))|(obtain⟨rfl,rfl⟩:=hr)|(refine⟨_,SubN.refl _,?_⟩)))
 all_goals exact RQ hR
theorem f93 (u:U) (O:Good u) (x:U) (hi:x.id∈u.ids) (E:u.id≠x.id) (d:Dd):Pure G Tryz.prog 93 [.agg u.cs,.agg x.cs,.agg d.cs] (aO (without x.id u,0)):=by
 have J:=f156 G u O x.id hi E
 simp only[Idd.cs]at J
 unfold Dd.cs
 rw[U.cs_eq x,Itm.cs_eq]
 refine Pure.w c93 λR N=>?_
 unfold s93 r93
 (repeat' (first|(with_reducible refine aa J ?_)|simp only[EVz,seval,↓reduceIte,EV6,EV7,I]|simp only[EVz,seval,↓reduceIte,EV6,EV7]|(with_reducible intro M D;(try(have F:=D;simp only[EVK]at F;(have I:=F))))))
 all_goals exact RQ N
theorem f94 (u:U) (Y:Good u) (x:U) (hi:x.id∈u.ids) (d:Dd) (hw:x.words.length<=256) (hk:d.it.kind=2) (ho:d.it.old≠[]) (O:d.it.old.length<=256) (N:d.it.new.length<=256) (hn:0<=d.it.nth/\d.it.nth<=256):
  Pure G Tryz.prog 94 [.agg u.cs,.agg x.cs,.agg d.cs] (aO (if (bJ x.words d.it d.act d.item).2≠0 then (u,(bJ x.words d.it d.act d.item).2)else (U.wth x.id (λy=>{y with words:=(bJ x.words d.it d.act d.item).1}) u,0))):=by
 have hs:=Y.short
 have J:=f157 G x.words d.it d.act d.item hw hk ho O N hn
 unfold iX at J
 obtain⟨⟨w,e⟩,T⟩:∃q,bJ x.words d.it d.act d.item=q:=⟨_,rfl⟩
 rw[T]at J ⊢
 have V:=λZ=>f153 G _ _ _ x.id u hs Y.nd hi (d158 G Z w _)
 simp only[Idd.cs]at V J
 unfold Dd.cs
 rw[U.cs_eq x,Itm.cs_eq]
 refine Pure.w c94 λR M=>?_
 unfold s94 r94
 simp only at M
 rcases Classical.em (e=0)with h|h
 ·subst h
  rw[if_neg (by simp)]at M
  (repeat' (first|(with_reducible refine aa J ?_)|simp only[EVz,seval,↓reduceIte,EV6,EV7,D]|simp only[EVz,seval,↓reduceIte,EV6,EV7]|(with_reducible intro I F;(try(have E:=F;simp only[EVK]at E;first|(have D:=AI E D)|(have D:=E))))|(refine aT [(I,_)] [(_,_)] (V I).v (ax.rfl' _) (SubN.refl _) (λr1 ac hr X=>?_))|(obtain⟨rfl,rfl⟩:=hr)|(refine⟨_,SubN.refl _,?_⟩)))
  all_goals exact RQ M
 ·rw[if_pos h]at M
  (repeat' (first|(with_reducible (refine ab (λh=>?_) (λh=>?_))<;>(try simp only[DZ]at h))|(with_reducible refine aa J ?_)|simp only[EVz,seval,↓reduceIte,EV6,EV7,h,D]|simp only[EVz,seval,↓reduceIte,EV6,EV7,h]|(with_reducible intro I F;(try(have E:=F;simp only[EVK]at E;first|(have D:=AI E D)|(have D:=E))))|(exfalso;omega)))
  all_goals exact RQ M
theorem f95 (u:U) (hu:Good u) (x:U) (hi:x.id∈u.ids) (d:Dd) (hw:x.words.length<=256) (hk:d.it.kind=3) (V:d.it.old.length<=256) (T:d.it.new.length<=256) (O:1<=d.it.new.length) (hn:0<=d.it.nth/\d.it.nth<=256) (N:d.it.old=[]->d.it.nth=0):
  Pure G Tryz.prog 95 [.agg u.cs,.agg x.cs,.agg d.cs] (aO (if (bJ x.words d.it d.act d.item).2≠0 then (u,(bJ x.words d.it d.act d.item).2)else (U.wth x.id (λy=>{y with words:=(bJ x.words d.it d.act d.item).1}) u,0))):=by
 have hs:=hu.short
 have J:=f159 G x.words d.it d.act d.item hw hk V T O hn N
 unfold iX at J
 obtain⟨⟨w,e⟩,X⟩:∃q,bJ x.words d.it d.act d.item=q:=⟨_,rfl⟩
 rw[X]at J ⊢
 have Y:=λbw=>f153 G _ _ _ x.id u hs hu.nd hi (d160 G bw w _)
 simp only[Idd.cs]at Y J
 unfold Dd.cs
 rw[U.cs_eq x,Itm.cs_eq]
 refine Pure.w c95 λR M=>?_
 unfold s95 r95
 simp only at M
 rcases Classical.em (e=0)with h|h
 ·subst h
  rw[if_neg (by simp)]at M
  (repeat' (first|(with_reducible refine aa J ?_)|simp only[EVz,seval,↓reduceIte,EV6,EV7,D]|simp only[EVz,seval,↓reduceIte,EV6,EV7]|(with_reducible intro I F;(try(have E:=F;simp only[EVK]at E;first|(have D:=AI E D)|(have D:=E))))|(refine aT [(I,_)] [(_,_)] (Y I).v (ax.rfl' _) (SubN.refl _) (λr1 ac hr Z=>?_))|(obtain⟨rfl,rfl⟩:=hr)|(refine⟨_,SubN.refl _,?_⟩)))
  all_goals exact RQ M
 ·rw[if_pos h]at M
  (repeat' (first|(with_reducible (refine ab (λh=>?_) (λh=>?_))<;>(try simp only[DZ]at h))|(with_reducible refine aa J ?_)|simp only[EVz,seval,↓reduceIte,EV6,EV7,h,D]|simp only[EVz,seval,↓reduceIte,EV6,EV7,h]|(with_reducible intro I F;(try(have E:=F;simp only[EVK]at E;first|(have D:=AI E D)|(have D:=E))))|(exfalso;omega)))
  all_goals exact RQ M
theorem f96 (u:U) (T:Good u) (x:U) (hi:x.id∈u.ids) (d:Dd) (Y:d.it.new.length<=256):
  Pure G Tryz.prog 96 [.agg u.cs,.agg x.cs,.agg d.cs] (aO (U.wth x.id (λy=>{y with head:=aX d.act d.item d.it.new 0}) u,0)):=by
 have hs:=T.short
 have J:=f161 G d.it.new d.act d.item 0 (by omega) (by omega) (by omega)
 obtain⟨w,M⟩:∃q,aX d.act d.item d.it.new 0=q:=⟨_,rfl⟩
 rw[M]at J ⊢
 have N:=λV=>f153 G _ _ _ x.id u hs T.nd hi (d162 G V w _)
 simp only[Idd.cs]at N J
 unfold Dd.cs
 rw[U.cs_eq x,Itm.cs_eq]
 refine Pure.w c96 λR X=>?_
 unfold s96 r96
 (repeat' (first|(with_reducible refine aa J ?_)|simp only[EVz,seval,↓reduceIte,EV6,EV7,D]|simp only[EVz,seval,↓reduceIte,EV6,EV7]|(with_reducible intro F I;(try(have E:=I;simp only[EVK]at E;first|(have D:=AI E D)|(have D:=E))))|(refine aT [(F,_)] [(_,_)] (N F).v (ax.rfl' _) (SubN.refl _) (λr1 ac Z O=>?_))|(obtain⟨rfl,rfl⟩:=Z)|(refine⟨_,SubN.refl _,?_⟩)))
 all_goals exact RQ X
variable (hG:GOk G)
include hG
theorem f97 (u:U) (T:Good u) (x:U) (hx:x=fnd x.id u) (hi:x.id∈u.ids) (O:u.id≠x.id) (d:Dd):
  Pure G Tryz.prog 97 [.agg u.cs,.agg x.cs,.agg d.cs] (aO (if dR (parR x.id u).1 (parR x.id u).1.kids {x with label:=d.it.label}=10 then (u,10)else (U.wth x.id (λy=>{y with label:=d.it.label}) u,0))):=by
 have hs:=T.short
 obtain⟨p,dd,j,e1,e2,e3⟩:=bt T.nd hi O
 obtain⟨hj,N,_⟩:=ei T _ _ e1
 simp only at hj N
 have J:=f131 G x.id u hs T.nd
 unfold gW at J
 rw[e1]at J
 have I:=f44 G p.id u hs
 unfold gV at I
 rw[fG e3.mem,if_neg (by simp),e3.fnd]at I
 have M:=f146 G hG p {x with label:=d.it.label} (by omega)
 have X:=λbd=>f153 G _ _ _ x.id u hs T.nd hi (d163 G bd d _)
 rw[e2]
 simp only
 obtain⟨t,ht⟩:∃t,dR p p.kids {x with label:=d.it.label}=t:=⟨_,rfl⟩
 rw[ht]at M ⊢
 rw[U.cs_eq {x with label:=d.it.label}]at M
 simp only[Idd.cs]at X J I M
 unfold Dd.cs at X ⊢
 rw[Itm.cs_eq]at X ⊢
 rw[U.cs_eq x]
 refine Pure.w c97 λR V=>?_
 unfold s97 r97
 rcases Classical.em (t=10)with h|h
 ·subst h
  rw[if_pos rfl]at V
  (repeat' (first|(with_reducible first|refine aa J ?_|refine aa I ?_|refine aa M ?_)|simp only[EVz,seval,↓reduceIte,EV6,EV7,D]|simp only[EVz,seval,↓reduceIte,EV6,EV7]|(with_reducible intro Z F;(try(have E:=F;simp only[EVK]at E;first|(have D:=AI E D)|(have D:=E))))))
  all_goals exact RQ V
 ·rw[if_neg h]at V
  (repeat' (first|(with_reducible first|refine aa J ?_|refine aa I ?_|refine aa M ?_)|simp only[EVz,seval,↓reduceIte,EV6,EV7,h,D]|simp only[EVz,seval,↓reduceIte,EV6,EV7,h]|(with_reducible intro Z F;(try(have E:=F;simp only[EVK]at E;first|(have D:=AI E D)|(have D:=E))))))
  rename_i b4 _ _ _ Y _ _ _ b6 _ _ _ b8 _ _ _
  refine aT [(Y,_)] [_,_,_,_] (X Y).v (ax.rfl' _) (SubN.perm (perm_middle (l₁:=[_,_,_]) (l₂:=[_])).symm) (λr1 ah hr ac=>?_)
  obtain⟨rfl,rfl⟩:=hr
  refine⟨_,SubN.refl _,?_⟩
  have q1:¬Y=b6:=by have:=D;intro e;subst e;simp at this
  (repeat' (simp only[EVz,seval,↓reduceIte,EV6,EV7,q1,D]))
  all_goals exact RQ V
end
theorem pa {G:Glob} {P:Program} {f:Value} {args:List AV} {x:Nat×AObj} {σ:Store} {K:AV->Store->Prop} {t:Tag K} {v:AV}
  (h:cd G P f args [x] λr σ'=>r=v/\σ'=[x]) (D:K v (x::σ)):CALL G P f args (x::σ) K t:=
 aZ [x] σ h (ax.rfl' _) (SubN.refl _) (by rintro _ _ ⟨rfl,rfl⟩;exact D)
theorem spot_le {u:U} (h:Good u) {i q:Idd} {wh:Int} {k:Nat} (e:spot u i wh=some (q,k)):k<=(fnd q u).kids.length:=by
 unfold spot at e
 split at e
 ·injection e with e;injection e with D E;omega
 ·split at e
  ·injection e with e;injection e with D E;subst D;omega
  ·obtain⟨⟨p,d,j⟩,D,E⟩:=Option.map_eq_some_iff.1 e
   obtain⟨F,J,I⟩:=ei h i _ D
   injection E with e3 e4
   subst e3
   rw[I.fnd]
   show k<=p.kids.length
   change j<p.kids.length at F
   simp only at e4
   split at e4<;>omega
theorem mh {u:U} {q:Idd} (D:q∈u.ids):(anc q u).length+1=(U.way q u).length:=by
 unfold anc
 rw[length_reverse,length_map,length_dropLast]
 have:=gH D
 omega
theorem SubN.six {n x a b c d:Nat×AObj}:SubN [n,x,a,b,c,d] [a,x,b,n,c,d]:=
 SubN.perm ((perm_middle (l₁:=[a,x,b]) (l₂:=[c,d])).trans (List.Perm.cons _ (List.Perm.swap _ _ _))).symm
section
variable (G:Glob) (hG:GOk G)
include hG
set_option maxHeartbeats 4000000 in
theorem f92 (u:U) (N:Good u) (y:U) (d:Dd) (i:Idd) (hO:one u d.it.at_=(i,0)) (bb:d.it.kind=0) (h0:0<=d.it.wh) (h3:d.it.wh<=3) (X:Unit0 d) (hp:d.it.at_.length<1000000) (bu:d.it.to_.length<1000000):
  Pure G Tryz.prog 92 [.agg u.cs,.agg y.cs,.agg d.cs] (aO (insP u i d)):=by
 have hs:=N.short
 have bo:=N.cnt
 have hi:i∈u.ids:=by have:=bZ (u:=u) (p:=d.it.at_);rw[hO]at this;exact this rfl
 have F:=f144 G u d.it hs bo N.nd (good_hk N) (nj N) (.inl bb) h0 h3 hp bu
 have aw:dest u d.it=(match spot u i d.it.wh with|none=>.inr 9|some q=>.inl q):=by
  unfold dest
  rw[hO]
  simp[bb]
  rfl
 rw[aw]at F
 unfold insP
 have Z:=λq k=>iy (q:=q) (k:=k) N.nd hi (wh:=d.it.wh)
 have Y:=λq k=>spot_le (q:=q) (k:=k) (i:=i) (wh:=d.it.wh) N
 obtain⟨z,hz⟩:∃z,spot u i d.it.wh=z:=⟨_,rfl⟩
 rw[hz]at F Z Y ⊢
 unfold cI at F
 unfold Dd.cs
 rw[U.cs_eq y]
 rcases z with _|⟨q,k⟩
 ·refine Pure.w c92 λR J=>?_
  unfold s92 r92
  unfold aO at J
  simp only at F J
  rw[Itm.cs_eq]at F ⊢
  (repeat' (first|(with_reducible refine aa F ?_)|simp only[EVz,seval,↓reduceIte,EV6,EV7,D]|simp only[EVz,seval,↓reduceIte,EV6,EV7]|(with_reducible intro O I;(try(have E:=I;simp only[EVK]at E;first|(have D:=AI E D)|(have D:=E))))))
  all_goals exact RQ J
 ·have hq:=Z q k rfl
  have bd:=Y q k rfl
  simp only at F ⊢
  have bw:=gc X.nodes (by have:=X.cnt;omega)
  have M:=f145 G d.it.unit d.act d.item bw (by have h1:=wt_le X.nodes;have h2:=X.cnt;omega)
  obtain⟨s1,s2,s3,s4,s5⟩:=je d.it.unit d.act d.item X.nodes
  obtain⟨x,hx⟩:∃x,cz d.it.unit d.act d.item=x:=⟨_,rfl⟩
  rw[hx]at M s1 s2 s3 s4 s5 ⊢
  have ac:x.Short:=gc s5 (by rw[s3];have:=X.cnt;omega)
  have V:=f44 G q u hs
  unfold gV at V
  rw[fG hq,if_neg (by simp)]at V
  have bq:=gq N q
  have al:=mh hq
  have T:=f147 G u q x hs.1 ac.1
  have be:=f148 G u hs.1
  have bi:=f148 G x ac.1
  have bk:=f149 G u hs.1
  have bl:=f149 G x ac.1
  have hT:=f146 G hG (fnd q u) x (by omega)
  have d1:x.ids.length=x.flat.length:=by unfold U.ids;rw[length_map]
  have cw:u.ids.length=u.flat.length:=by unfold U.ids;rw[length_map]
  have d0:x.flat.length<=1024:=by rw[s3];exact X.cnt
  have ah:=λbh=>f150k G [(bh,.cells 115 [.lst 3 (u.ids.map Idd.cs)])] (.func (.func 151) #[] #[.pointer (some ⟨bh,0,none⟩)]) (λk=>decide (k∈u.ids)) x.ids (by omega)
   (λw _=>⟨_,_,_,rfl,f151 G bh u.ids w (by omega)⟩)
  have hW:=λbn bx=>f153 G _ _ _ q u hs N.nd hq (d154 G bn bx k x _ bd (by omega))
  have cm:(0:Int)<=x.cnt/\x.cnt<=1024:=by unfold U.cnt;omega
  have ch:(0:Int)<=u.cnt/\u.cnt<=1024:=by unfold U.cnt;omega
  have w3:IntKind.i64.wrap (u.cnt+x.cnt)=u.cnt+x.cnt:=aA (by omega) (by omega)
  rw[←al]
  clear s1 s2 s4 aw Z Y bq
  obtain⟨P,hP⟩:∃P,fnd q u=P:=⟨_,rfl⟩
  rw[hP]at V hT bd ⊢
  obtain⟨t,ht⟩:∃t,dR P P.kids x=t:=⟨_,rfl⟩
  rw[ht]at hT ⊢
  obtain⟨an,bm⟩:∃an,(anc q u).length=an:=⟨_,rfl⟩
  rw[bm]at T ⊢
  obtain⟨ex,bp⟩:∃ex,x.ids.any (λk=>decide (k∈u.ids))=ex:=⟨_,rfl⟩
  rw[bp]at ah ⊢
  simp only[Idd.cs]at V T hW
  rw[U.cs_eq P]at V hT
  unfold aO
  rw[show(((an+1:Nat):Int))=(an:Int)+1 by omega]
  refine Pure.w c92 λR J=>?_
  unfold s92 r92
  rw[Itm.cs_eq]at F ⊢
  rw[U.cs_eq d.it.unit]at M
  rcases Classical.em (t=0)with h|h
  ·subst h
   rw[if_neg (by simp)]at J
   (repeat' (first|(with_reducible (first|refine ab (λh=>?_) (λh=>?_)|refine ai (λh=>?_) (λh=>?_))<;>(try simp only[DZ]at h))|(with_reducible first|refine aa F ?_|refine aa V ?_|refine aa M ?_|refine aa hT ?_|refine aa T ?_|refine aa be ?_|refine aa bi ?_|refine aa bk ?_|refine aa bl ?_)|simp only[EVz,seval,↓reduceIte,EV6,EV7,w3,D]|simp only[EVz,seval,↓reduceIte,EV6,EV7,w3]|(with_reducible intro O I;(try(have E:=I;simp only[EVK]at E;first|(have D:=AI E D)|(have D:=E))))|(with_reducible first|refine ae ?_ ?_|refine af ?_)|(refine pa (ah O).v ?_)))
   all_goals try(
    refine J _ _ (.inl (.inl ?_))
    rw[if_pos (by first|exact .inl (by omega)|exact .inr (.inl (by omega))|exact .inr (.inr (by omega)))]
    done)
   all_goals
    have bs:¬(64<=P.kids.length\/8<(an:Int)+1+x.dep\/1024<u.cnt+x.cnt):=by omega
    rw[if_neg bs]at J
   all_goals try(
    refine J _ _ (.inl (.inl ?_))
    rw[if_pos (by assumption)]
    done)
   all_goals
    have ba:ex=false:=by assumption
    rw[ba]at J
    simp only[Bool.false_eq_true,if_false]at J
    refine aT [(_,_),(_,_)] [_,_,_,_] (hW _ _).v (ax.rfl' _) SubN.six (λr1 d2 hr cp=>?_)
    obtain⟨rfl,rfl⟩:=hr
    refine⟨_,SubN.refl _,?_⟩
    (repeat' (simp only[EVz,seval,↓reduceIte,EV6,EV7,D]))
    all_goals exact RQ J
  ·rw[if_pos h]at J
   (repeat' (first|(with_reducible (first|refine ab (λh=>?_) (λh=>?_)|refine ai (λh=>?_) (λh=>?_))<;>(try simp only[DZ]at h))|(with_reducible first|refine aa F ?_|refine aa V ?_|refine aa M ?_|refine aa hT ?_)|simp only[EVz,seval,↓reduceIte,EV6,EV7,h,D]|simp only[EVz,seval,↓reduceIte,EV6,EV7,h]|(with_reducible intro O I;(try(have E:=I;simp only[EVK]at E;first|(have D:=AI E D)|(have D:=E))))|(with_reducible first|refine ae ?_ ?_|refine af ?_)|(exfalso;omega)))
   all_goals exact RQ J
end
theorem cU (f:Value) (b:Bool) (e:Int) (l:List (Value×Bool×Int)):cc ((f,b,e)::l)=if b=true then e else cc l:=rfl
theorem p8 {u:U} {q:Idd} (D:q∈u.ids):lev u q=((anc q u).length:Int):=by
 have:=mh D
 unfold lev
 omega
theorem oo (u:U) (q:Idd) (k:Int) (x:U) (f1 f2 f3 f4 f5 f6:Value) (O:stP u=true) (T:stP x=true) (N:x.kind≠0):
  cc [(f1,!hasP q u,4),(f2,!nests (fnd q u).kind x.kind,9),(f3,(decide (k<0)||decide (((fnd q u).kids.length:Int)<k)),3),(f4,taken (fnd q u).kids x.kind x.label,10),
   (f5,(decide (64<=((fnd q u).kids.length:Int))||(decide (8<((anc q u).length:Int)+1+x.dep)||decide (1024<u.cnt+x.cnt))),6),(f6,x.ids.any (λy=>hasP y u),5)]=en u q k x:=by
 unfold en
 rw[if_neg (by rw[O,T];simp[N])]
 simp only[cU,cc]
 by_cases D:q∈u.ids
 ·have J:¬(!hasP q u)=true:=by simp[hasP,D]
  have M:¬q∉u.ids:=λh=>h D
  rw[if_neg J,if_neg M,p8 D]
  by_cases c1:nests (fnd q u).kind x.kind=false
  ·have E:(!nests (fnd q u).kind x.kind)=true:=by rw[c1];rfl
   rw[if_pos E,if_pos c1]
  have E:¬(!nests (fnd q u).kind x.kind)=true:=by simpa using c1
  rw[if_neg E,if_neg c1]
  by_cases c2:k<0\/((fnd q u).kids.length:Int)<k
  ·have F:(decide (k<0)||decide (((fnd q u).kids.length:Int)<k))=true:=by simpa using c2
   rw[if_pos F,if_pos c2]
  have F:¬(decide (k<0)||decide (((fnd q u).kids.length:Int)<k))=true:=by simpa using c2
  rw[if_neg F,if_neg c2]
  by_cases c3:taken (fnd q u).kids x.kind x.label=true
  ·rw[if_pos c3,if_pos c3]
  rw[if_neg c3,if_neg c3]
  by_cases c4:64<=(fnd q u).kids.length\/8<((anc q u).length:Int)+1+x.dep\/1024<u.cnt+x.cnt
  ·have I:(decide (64<=((fnd q u).kids.length:Int))||(decide (8<((anc q u).length:Int)+1+x.dep)||decide (1024<u.cnt+x.cnt)))=true:=by simp only[Bool.or_eq_true,decide_eq_true_eq];omega
   rw[if_pos I,if_pos c4]
  have I:¬(decide (64<=((fnd q u).kids.length:Int))||(decide (8<((anc q u).length:Int)+1+x.dep)||decide (1024<u.cnt+x.cnt)))=true:=by simp only[Bool.or_eq_true,decide_eq_true_eq];omega
  rw[if_neg I,if_neg c4]
  rfl
 ·have J:(!hasP q u)=true:=by simp[hasP,D]
  rw[if_pos J,if_pos D]
theorem rem_first (u:U) (i:Idd) (f1 f2 f3:Value):cc [(f1,!stP u,1),(f2,!hasP i u,4),(f3,decide (u.id=i),9)]=(remT u i).2:=by
 unfold remT
 simp only[cU,cc]
 cases N:stP u with
 |false=>rfl
 |true=>
  have I:¬(!true)=true:=by simp
  have E:¬(true=false):=by simp
  rw[if_neg I,if_neg E]
  by_cases hi:i∈u.ids
  ·have F:¬(!hasP i u)=true:=by simp[hasP,hi]
   have J:¬i∉u.ids:=λh=>h hi
   rw[if_neg F,if_neg J]
   by_cases D:u.id=i
   ·rw[if_pos (decide_eq_true D),if_pos D]
   ·have M:¬decide (u.id=i)=true:=by simpa using D
    rw[if_neg M,if_neg D]
  ·have F:(!hasP i u)=true:=by simp[hasP,hi]
   rw[if_pos F,if_pos hi]
theorem kf (u:U) (i q:Idd) (f1 f2:Value):cc [(f1,!stP u,1),(f2,(!hasP i u|| !hasP q u),4)]=(if stP u=false then 1 else if i∉u.ids\/q∉u.ids then 4 else 0):=by
 simp only[cU,cc]
 cases I:stP u with
 |false=>rfl
 |true=>
  have F:¬(!true)=true:=by simp
  have D:¬(true=false):=by simp
  rw[if_neg F,if_neg D]
  by_cases hi:i∉u.ids\/q∉u.ids
  ·have E:(!hasP i u|| !hasP q u)=true:=by simpa[hasP]using hi
   rw[if_pos hi,if_pos E]
  ·have E:¬(!hasP i u|| !hasP q u)=true:=by simpa[hasP]using hi
   rw[if_neg hi,if_neg E]
theorem kb (P x:U) (k:Int) (n:Int) (f1 f2 f3:Value):cc [(f1,(decide (k<0)||decide ((P.kids.length:Int)<k)),3),(f2,taken P.kids x.kind x.label,10),(f3,(decide (64<=(P.kids.length:Int))||decide (8<n+1+x.dep)),6)]
  =(if k<0\/(P.kids.length:Int)<k then 3 else if taken P.kids x.kind x.label=true then 10 else if 64<=P.kids.length\/8<n+1+x.dep then 6 else 0):=by
 simp only[cU,cc]
 by_cases c2:k<0\/(P.kids.length:Int)<k
 ·have D:(decide (k<0)||decide ((P.kids.length:Int)<k))=true:=by simpa using c2
  rw[if_pos D,if_pos c2]
 have D:¬(decide (k<0)||decide ((P.kids.length:Int)<k))=true:=by simpa using c2
 rw[if_neg D,if_neg c2]
 by_cases c3:taken P.kids x.kind x.label=true
 ·rw[if_pos c3,if_pos c3]
 rw[if_neg c3,if_neg c3]
 by_cases c4:64<=P.kids.length\/8<n+1+x.dep
 ·have E:(decide (64<=(P.kids.length:Int))||decide (8<n+1+x.dep))=true:=by simp only[Bool.or_eq_true,decide_eq_true_eq];omega
  rw[if_pos E,if_pos c4]
 ·have E:¬(decide (64<=(P.kids.length:Int))||decide (8<n+1+x.dep))=true:=by simp only[Bool.or_eq_true,decide_eq_true_eq];omega
  rw[if_neg E,if_neg c4]
section
variable (G:Glob)
theorem f205 (b:Nat) (u:U) (E:u.Short) (i:Idd):ag G Tryz.prog 205 [.agg i.cs,.sc (.pointer (some ⟨b,0,none⟩))] [(b,.cells 27 u.cs)] λr σ'=>r= .bool (hasP i u)/\σ'=[(b,.cells 27 u.cs)]:=by
 have D:=f113 G i u E
 simp only[Idd.cs]at D
 refine ag.w c205 ?_
 unfold s205 r205
 rw[U.cs_eq u]at D ⊢
 (repeat' (first|(with_reducible refine aa D ?_)|simp only[EVz,seval,↓reduceIte,EV6,EV7]|fail))
 all_goals exact RET.keep rfl (SubN.refl _)
theorem f204 (E D:Nat) (u x:U) (N:u.Short) (J:x.Short):ag G Tryz.prog 204 [.sc (.pointer (some ⟨E,0,none⟩)),.sc (.pointer (some ⟨D,0,none⟩))] [(E,.cells 27 x.cs),(D,.cells 27 u.cs)] λr σ'=>r= .bool (x.ids.any λy=>hasP y u)/\σ'=[(E,.cells 27 x.cs),(D,.cells 27 u.cs)]:=by
 have I:=f149 G x J.1
 have O:x.ids.length<100000000:=by unfold U.ids;rw[length_map];have:=J.1.2;omega
 have F:=f150k G [(D,.cells 27 u.cs)] (.func (.func 205) #[] #[.pointer (some ⟨D,0,none⟩)]) (λy=>hasP y u) x.ids (by omega)
   (λy T=>⟨_,_,_,rfl,f205 G D u N y⟩)
 refine ag.wn c204 λM=>?_
 unfold s204 r204
 rw[U.cs_eq u]at F ⊢
 rw[U.cs_eq x]at I ⊢
 (repeat' (first|(with_reducible refine aa I ?_)|simp only[EVz,seval,↓reduceIte,EV6,EV7]|(refine ce F.v (SubN.tail (SubN.refl _) _) ?_)|fail))
 all_goals exact RET.keep rfl (SubN.refl _)
theorem f207 (b:Nat) (t:Bool):ag G Tryz.prog 207 [.sc (.pointer (some ⟨b,0,none⟩))] [(b,.cells 4 [.bool t])] λr σ'=>r= .bool (!t)/\σ'=[(b,.cells 4 [.bool t])]:=by
 refine ag.w c207 ?_
 unfold s207 r207
 (repeat' (simp only[EVz,seval,↓reduceIte,EV6,EV7]))
 all_goals exact RET.keep rfl (SubN.refl _)
theorem f208 (hG:GOk G) (D E:Nat) (p x:U):ag G Tryz.prog 208 [.sc (.pointer (some ⟨D,0,none⟩)),.sc (.pointer (some ⟨E,0,none⟩))] [(D,.cells 27 p.cs),(E,.cells 27 x.cs)] λr σ'=>r= .bool (!nests p.kind x.kind)/\σ'=[(D,.cells 27 p.cs),(E,.cells 27 x.cs)]:=by
 have J:=f122 G hG p.kind x.kind
 refine ag.wn c208 λF=>?_
 have I:¬D=E:=by simp[Store.keys]at F;exact F
 have M:¬E=D:=λe=>I e.symm
 unfold s208 r208
 rw[U.cs_eq p,U.cs_eq x]
 (repeat' (first|(with_reducible refine aa J ?_)|simp only[EVz,seval,↓reduceIte,EV6,EV7,I,M]|fail))
 all_goals exact RET.keep rfl (SubN.refl _)
theorem f209 (D E:Nat) (k:Int) (p:U):ag G Tryz.prog 209 [.sc (.pointer (some ⟨D,0,none⟩)),.sc (.pointer (some ⟨E,0,none⟩))] [(D,.cells 3 [.int .i64 k]),(E,.cells 27 p.cs)] λr σ'=>r= .bool (decide (k<0)||decide ((p.kids.length:Int)<k))/\σ'=[(D,.cells 3 [.int .i64 k]),(E,.cells 27 p.cs)]:=by
 refine ag.wn c209 λF=>?_
 have I:¬D=E:=by simp[Store.keys]at F;exact F
 have J:¬E=D:=λe=>I e.symm
 unfold s209 r209
 rw[U.cs_eq p]
 (repeat' (first|(with_reducible (refine ai (λh=>?_) (λh=>?_))<;>(try simp only[DZ]at h))|simp only[EVz,seval,↓reduceIte,EV6,EV7,I,J]|fail))
 all_goals(refine RET.keep ?_ (SubN.refl _);first|(simp[*];done)|(simp[*];omega))
theorem f210 (D E:Nat) (p x:U) (M:p.kids.length<1000000):ag G Tryz.prog 210 [.sc (.pointer (some ⟨D,0,none⟩)),.sc (.pointer (some ⟨E,0,none⟩))] [(D,.cells 27 p.cs),(E,.cells 27 x.cs)] λr σ'=>r= .bool (taken p.kids x.kind x.label)/\σ'=[(D,.cells 27 p.cs),(E,.cells 27 x.cs)]:=by
 have J:=f128 G p.kids x.kind x.label M
 refine ag.wn c210 λF=>?_
 have I:¬D=E:=by simp[Store.keys]at F;exact F
 have N:¬E=D:=λe=>I e.symm
 unfold s210 r210
 rw[U.cs_eq p,U.cs_eq x]
 (repeat' (first|(with_reducible refine aa J ?_)|simp only[EVz,seval,↓reduceIte,EV6,EV7,I,N]|fail))
 all_goals exact RET.keep rfl (SubN.refl _)
set_option maxHeartbeats 4000000 in
theorem f206 (D F E I:Nat) (p u x:U) (q:Idd) (hu:u.Short) (ac:u.flat.length<=1000000) (hx:x.Short) (ah:x.flat.length<=1000000) (hp:p.kids.length<1000000):
  ag G Tryz.prog 206 [.sc (.pointer (some ⟨D,0,none⟩)),.sc (.pointer (some ⟨F,0,none⟩)),.sc (.pointer (some ⟨E,0,none⟩)),.sc (.pointer (some ⟨I,0,none⟩))]
   [(D,.cells 27 p.cs),(F,.cells 27 u.cs),(E,.cells 23 q.cs),(I,.cells 27 x.cs)]
   λr σ'=>r= .bool (decide (64<=(p.kids.length:Int))||(decide (8<((anc q u).length:Int)+1+x.dep)||decide (1024<u.cnt+x.cnt)))/\σ'=[(D,.cells 27 p.cs),(F,.cells 27 u.cs),(E,.cells 23 q.cs),(I,.cells 27 x.cs)]:=by
 have O:=f124 G q u hu
 have hD:=f125 G x hx.1
 have J:=f148 G u hu.1
 have M:=f148 G x hx.1
 simp only[Idd.cs]at O
 have h1:(anc q u).length<=u.flat.length:=by
  unfold anc
  rw[length_reverse,length_map,length_dropLast]
  have:=eF q u
  omega
 have h3:=x.dep_cnt
 have h5:=x.dep_ge
 unfold U.cnt at h3
 have w1:IntKind.i64.wrap (((anc q u).length:Int)+1)=((anc q u).length:Int)+1:=aA (by omega) (by omega)
 have w2:IntKind.i64.wrap (((anc q u).length:Int)+1+x.dep)=((anc q u).length:Int)+1+x.dep:=aA (by omega) (by omega)
 have w3:IntKind.i64.wrap (u.cnt+x.cnt)=u.cnt+x.cnt:=by unfold U.cnt;exact aA (by omega) (by omega)
 obtain⟨an,T⟩:∃an,(anc q u).length=an:=⟨_,rfl⟩
 rw[T]at O w1 w2 ⊢
 refine ag.wn c206 λN=>?_
 simp only[Store.keys,map_cons,map_nil,nodup_cons,mem_cons,not_mem_nil,or_false,not_or]at N
 obtain⟨⟨V,X,Y⟩,⟨Z,a5⟩,a6,_⟩:=N
 have b1:¬F=D:=λe=>V e.symm
 have b2:¬E=D:=λe=>X e.symm
 have b3:¬I=D:=λe=>Y e.symm
 have b4:¬E=F:=λe=>Z e.symm
 have b5:¬I=F:=λe=>a5 e.symm
 have b6:¬I=E:=λe=>a6 e.symm
 unfold s206 r206
 rw[U.cs_eq u]at O J ⊢
 rw[U.cs_eq x]at hD M ⊢
 rw[U.cs_eq p]
 (repeat' (first|(with_reducible (refine ai (λh=>?_) (λh=>?_))<;>(try simp only[DZ]at h))|(with_reducible first|refine aa O ?_|refine aa hD ?_|refine aa J ?_|refine aa M ?_)|simp only[EVz,seval,↓reduceIte,EV6,EV7,w1,w2,w3,V,X,Y,Z,a5,a6,b1,b2,b3,b4,b5,b6]|(with_reducible first|refine ae ?_ ?_|refine af ?_)|fail))
 all_goals(refine RET.keep (congrArg AV.bool ?_) (SubN.refl _);first|(rw[decide_eq_true (p:=(64:Int)<=_) (by omega)];rfl)|(rw[decide_eq_false (p:=(64:Int)<=_) (by omega),decide_eq_true (p:=(8:Int)<_) (by omega)];rfl)|(rw[decide_eq_false (p:=(64:Int)<=_) (by omega),decide_eq_false (p:=(8:Int)<_) (by omega)];rfl))
end
section
variable (G:Glob)
set_option maxHeartbeats 8000000 in
theorem f117 (hG:GOk G) (u:U) (ac:stP u=true) (hu:u.Short) (ah:u.flat.length<=1000000) (q:Idd) (k:Int) (x:U) (hx:x.Short) (al:x.flat.length<=1000000):
  Pure G Tryz.prog 117 [.agg u.cs,.agg q.cs,.int .i64 k,.agg x.cs] (.int .i64 (en u q k x)):=by
 have O:=f111 G hG u hu
 have T:=f111 G hG x hx
 have Y:=cj G q u hu
 rw[ac]at O
 have an:=(fb hu q).1.kids
 have N:stP x=false\/x.kind=0->en u q k x=1:=λh=>by unfold en;rw[if_pos (.inr h)]
 have J:=λf1 f2 f3 f4 f5 f6=>oo u q k x f1 f2 f3 f4 f5 f6 ac
 obtain⟨sx,aw⟩:∃b,stP x=b:=⟨_,rfl⟩
 rw[aw]at T N J
 simp only[Idd.cs]at Y
 have c3:=λb=>f207 G b (hasP q u)
 have c4:=λa b=>f208 G hG a b (fnd q u) x
 have c5:=λa b=>f209 G a b k (fnd q u)
 have c6:=λa b=>f210 G a b (fnd q u) x (by omega)
 have c2:=λa b c d=>f206 G a b c d (fnd q u) u x q hu ah hx al (by omega)
 have c1:=λa b=>f204 G a b u x hu hx
 generalize en u q k x=F at*
 obtain⟨P,hP⟩:∃P,fnd q u=P:=⟨_,rfl⟩
 rw[hP]at Y an c4 c5 c6 c2
 simp only[hP]at J
 rw[U.cs_eq P]at Y c4 c5 c6 c2
 rw[U.cs_eq u]at O Y c1 c2 ⊢
 rw[U.cs_eq x]at T c1 c2 c4 c6 ⊢
 simp only[Idd.cs]at c2
 refine Pure.w c117 λR Z=>?_
 unfold s117 r117
 cases sx with
 |false=>
  rw[N (.inl rfl)]at Z
  (repeat' (first|(with_reducible (first|refine ab (λh=>?_) (λh=>?_)|refine ai (λh=>?_) (λh=>?_)|refine aj (λh=>?_) (λh=>?_))<;>(try simp only[DZ]at h))|(with_reducible first|refine AI (by omega) ?_|refine aa O ?_|refine aa T ?_)|simp only[EVz,seval,↓reduceIte,EV6,EV7,D]|simp only[EVz,seval,↓reduceIte,EV6,EV7]|(with_reducible intro V I;(try(have E:=I;simp only[EVK]at E;first|(have D:=AI E D)|(have D:=E))))|(with_reducible first|refine ae ?_ ?_|refine af ?_)|(exfalso;omega)))
  all_goals exact RQ Z
 |true=>
  by_cases h0:x.kind=0
  ·rw[N (.inr h0)]at Z
   have X:decide (x.kind=0)=true:=decide_eq_true h0
   (repeat' (first|(with_reducible (first|refine ab (λh=>?_) (λh=>?_)|refine ai (λh=>?_) (λh=>?_)|refine aj (λh=>?_) (λh=>?_))<;>(try simp only[DZ]at h))|(with_reducible first|refine AI (by omega) ?_|refine aa O ?_|refine aa T ?_)|simp only[EVz,seval,↓reduceIte,EV6,EV7,X,D]|simp only[EVz,seval,↓reduceIte,EV6,EV7,X]|(with_reducible intro V I;(try(have E:=I;simp only[EVK]at E;first|(have D:=AI E D)|(have D:=E))))|(with_reducible first|refine ae ?_ ?_|refine af ?_)|(exfalso;omega)))
   all_goals exact RQ Z
  ·have J:=λf1 f2 f3 f4 f5 f6=>J f1 f2 f3 f4 f5 f6 rfl h0
   clear N
   have X:decide (x.kind=0)=false:=decide_eq_false h0
   (repeat' (first|(with_reducible (first|refine ab (λh=>?_) (λh=>?_)|refine ai (λh=>?_) (λh=>?_)|refine aj (λh=>?_) (λh=>?_))<;>(try simp only[DZ]at h))|(with_reducible first|refine AI (by omega) ?_|refine aa O ?_|refine aa T ?_|refine aa Y ?_)|simp only[EVz,seval,↓reduceIte,EV6,EV7,X,D]|simp only[EVz,seval,↓reduceIte,EV6,EV7,X]|(with_reducible intro V I;(try(have E:=I;simp only[EVK]at E;first|(have D:=AI E D)|(have D:=E))))|(with_reducible first|refine ae ?_ ?_|refine af ?_)|(refine⟨[[.sc _,.int .i64 _],[.sc _,.int .i64 _],[.sc _,.int .i64 _],[.sc _,.int .i64 _],[.sc _,.int .i64 _],[.sc _,.int .i64 _]],rfl,(by simp),rfl,?_⟩)|(exfalso;omega)))
   refine bG G (l:=[(_,!hasP q u,4),(_,!nests P.kind x.kind,9),(_,(decide (k<0)||decide ((P.kids.length:Int)<k)),3),(_,taken P.kids x.kind x.label,10),(_,(decide (64<=(P.kids.length:Int))||(decide (8<((anc q u).length:Int)+1+x.dep)||decide (1024<u.cnt+x.cnt))),6),(_,x.ids.any (λy=>hasP y u),5)]) rfl (by simp) (λy hy=>?_) ?_
   ·simp only[mem_cons,not_mem_nil,or_false]at hy
    rcases hy with rfl|rfl|rfl|rfl|rfl|rfl
    ·exact⟨_,(by refine⟨?_,λM=>?_⟩;(repeat(first|exact aM|(refine aD (by repeat(first|exact mem_cons_self|refine mem_cons_of_mem _ ?_)) ?_)));(simp only[Store.keys,map_cons,map_nil,nodup_cons,mem_cons,not_mem_nil,or_false,not_or,not_false_eq_true,true_and,nodup_nil,and_true,@eq_comm Nat]at M ⊢ <;>simp only[M,not_false_eq_true,and_self])),_,_,_,rfl,c3 _⟩
    ·exact⟨_,(by refine⟨?_,λM=>?_⟩;(repeat(first|exact aM|(refine aD (by repeat(first|exact mem_cons_self|refine mem_cons_of_mem _ ?_)) ?_)));(simp only[Store.keys,map_cons,map_nil,nodup_cons,mem_cons,not_mem_nil,or_false,not_or,not_false_eq_true,true_and,nodup_nil,and_true,@eq_comm Nat]at M ⊢ <;>simp only[M,not_false_eq_true,and_self])),_,_,_,rfl,c4 _ _⟩
    ·exact⟨_,(by refine⟨?_,λM=>?_⟩;(repeat(first|exact aM|(refine aD (by repeat(first|exact mem_cons_self|refine mem_cons_of_mem _ ?_)) ?_)));(simp only[Store.keys,map_cons,map_nil,nodup_cons,mem_cons,not_mem_nil,or_false,not_or,not_false_eq_true,true_and,nodup_nil,and_true,@eq_comm Nat]at M ⊢ <;>simp only[M,not_false_eq_true,and_self])),_,_,_,rfl,c5 _ _⟩
    ·exact⟨_,(by refine⟨?_,λM=>?_⟩;(repeat(first|exact aM|(refine aD (by repeat(first|exact mem_cons_self|refine mem_cons_of_mem _ ?_)) ?_)));(simp only[Store.keys,map_cons,map_nil,nodup_cons,mem_cons,not_mem_nil,or_false,not_or,not_false_eq_true,true_and,nodup_nil,and_true,@eq_comm Nat]at M ⊢ <;>simp only[M,not_false_eq_true,and_self])),_,_,_,rfl,c6 _ _⟩
    ·exact⟨_,(by refine⟨?_,λM=>?_⟩;(repeat(first|exact aM|(refine aD (by repeat(first|exact mem_cons_self|refine mem_cons_of_mem _ ?_)) ?_)));(simp only[Store.keys,map_cons,map_nil,nodup_cons,mem_cons,not_mem_nil,or_false,not_or,not_false_eq_true,true_and,nodup_nil,and_true,@eq_comm Nat]at M ⊢ <;>simp only[M,not_false_eq_true,and_self])),_,_,_,rfl,c2 _ _ _ _⟩
    ·exact⟨_,(by refine⟨?_,λM=>?_⟩;(repeat(first|exact aM|(refine aD (by repeat(first|exact mem_cons_self|refine mem_cons_of_mem _ ?_)) ?_)));(simp only[Store.keys,map_cons,map_nil,nodup_cons,mem_cons,not_mem_nil,or_false,not_or,not_false_eq_true,true_and,nodup_nil,and_true,@eq_comm Nat]at M ⊢ <;>simp only[M,not_false_eq_true,and_self])),_,_,_,rfl,c1 _ _⟩
   ·rw[J]
    (repeat' (first|(with_reducible (first|refine ab (λh=>?_) (λh=>?_)|refine ai (λh=>?_) (λh=>?_)|refine aj (λh=>?_) (λh=>?_))<;>(try simp only[DZ]at h))|(with_reducible refine AI (by omega) ?_)|simp only[EVz,seval,↓reduceIte,EV6,EV7,D]|simp only[EVz,seval,↓reduceIte,EV6,EV7]|(with_reducible intro V I;(try(have E:=I;simp only[EVK]at E;first|(have D:=AI E D)|(have D:=E))))|(with_reducible first|refine ae ?_ ?_|refine af ?_)|(exfalso;omega)))
    all_goals exact RQ Z
end
theorem Pure.wL {G:Glob} {P:Program} {k:Nat} {g:List Nat} {D:List (Nat×Option (Bool×Nat))} {s:SCode} {args:List AV} {r:AV} (E:fnAt P k g=some (D,s))
  (h:∀R:AV->Store->Prop,(∀x σ,LeRep x r->RET x σ R)->W G P s (retQ D R) (cL 0 args) [] ⟨⟩):Pure G P k args r:=
 ag.toPure (R:=λx _=>LeRep x r) (ag.w E (h _ λx σ F=>⟨x,[],AVle.rfl' _,SubN.nil _,F⟩)) (λ_ _ h=>h)
theorem po:LeRep (.agg zU) (.agg noU.cs):=by
 refine LeRep.agg ?_
 rw[U.cs_eq]
 unfold zU noU
 repeat' first
  |exact LeReps.nil
  |refine LeReps.cons ?_ ?_
 all_goals first|exact LeRep.refl _|exact LeRep.nil
section
variable (G:Glob)
end
theorem SubN.ins4 {t a b c d:Nat×AObj} {κ:Store}:SubN ((κ++[t])++[a,b,c,d]) (t::a::b::c::d::κ):=by
 have e:(κ++[t])++[a,b,c,d]=κ++[t,a,b,c,d]:=by simp
 rw[e]
 exact SubN.perm (perm_append_comm (l₁:=κ) (l₂:=[t,a,b,c,d]))
theorem SubN.ins4' {t a b c d:Nat×AObj} {κ:Store}:SubN (a::b::c::d::κ) ((κ++[t])++[a,b,c,d]):=by
 have e:(κ++[t])++[a,b,c,d]=κ++[t,a,b,c,d]:=by simp
 rw[e]
 exact SubN.trans (SubN.tail (SubN.refl _) t) (SubN.perm (perm_append_comm (l₁:=[t,a,b,c,d]) (l₂:=κ)))
theorem SubN.back2 {a b c d:Nat×AObj} {κ:Store}:SubN (κ++[c,d]) (a::b::c::d::κ):=
 SubN.tail (SubN.tail (SubN.perm (perm_append_comm (l₁:=κ) (l₂:=[c,d]))) _) _
theorem SubN.back1 {a b c:Nat×AObj} {κ:Store}:SubN (κ++[c]) (a::b::c::κ):=
 SubN.tail (SubN.tail (SubN.perm (perm_append_comm (l₁:=κ) (l₂:=[c]))) _) _
theorem SubN.pull3 {a b c:Nat×AObj} {κ σ:Store}:SubN (a::b::c::(κ++σ)) (κ++a::b::c::σ):=SubN.pullL (l:=[a,b,c])
theorem SubN.del3 {a b c:Nat×AObj} {κ:Store}:SubN (κ++[a,b,c]) (a::b::c::κ):=by
 exact SubN.perm (perm_append_comm (l₁:=κ) (l₂:=[a,b,c]))
theorem SubN.del3' {a b c:Nat×AObj} {κ:Store}:SubN (a::b::c::κ) (κ++[a,b,c]):=SubN.perm (perm_append_comm (l₁:=[a,b,c]) (l₂:=κ))
section
variable (G:Glob)
theorem f119 (k:Int) (x:U):ag G Tryz.prog 119 [.int .i64 k,.agg x.cs] [] (λr σ=>∃a b,r= .sc (.func (.func 212) #[] #[.pointer (some ⟨a,0,none⟩),.pointer (some ⟨b,0,none⟩)])/\σ=[(b,.cells 27 x.cs),(a,.cells 3 [.int .i64 k])]):=by
 refine ag.w c119 ?_
 unfold s119 r119
 rw[U.cs_eq x]
 (repeat' (first|simp only[EVz,seval,↓reduceIte,EV6,EV7]|(with_reducible intro I E;(try(have D:=E;simp only[EVK]at D;first|(have F:=AI D F)|(have F:=D))))|fail))
 all_goals exact RET.mk (SubN.refl _) ⟨_,_,rfl,rfl⟩
set_option maxHeartbeats 4000000 in
theorem v212 (a b j:Nat) (y x:U) (hj:j<=x.kids.length) (hl:x.kids.length<1000000) (hy:y.Short):
  iV G (.func (.func 212) #[] #[.pointer (some ⟨a,0,none⟩),.pointer (some ⟨b,0,none⟩)]) (λz=>{z with kids:=insAt z.kids j y}) [(b,.cells 27 y.cs),(a,.cells 3 [.int .i64 j])] x:=by
 have N:=f116 G y hy
 have ah:=f203 G (x.kids.map U.cs) (dZ _) (by rw[length_map];omega)
 have al:dL (x.kids.map U.cs) j y.cs=(insAt x.kids j y).map U.cs:=by unfold dL insAt;rw[map_append,map_cons,map_take,map_drop]
 have M:=λv κ J bo=>f155 G (x.kids.map U.cs) v κ J j (by rw[length_map];exact hj) (by rw[length_map];exact hl) bo y.cs (U.cs_len y)
 rw[al]at M
 have D:=U.cs_len y
 refine⟨_,_,_,rfl,?_⟩
 show ag G Tryz.prog 212 [.agg x.cs,.sc (.pointer (some ⟨a,0,none⟩)),.sc (.pointer (some ⟨b,0,none⟩))] _ _
 refine ag.freezeK (R1:=λσ'=>σ'=[(b,.cells 27 y.cs),(a,.cells 3 [.int .i64 j])]) ?_
 refine ag.wn c212 λE=>?_
 have q1:¬b=a:=by simp[Store.keys]at E;exact E
 have q2:¬a=b:=λe=>q1 e.symm
 unfold s212 r212
 obtain⟨ys,aw⟩:∃ys,y.cs=ys:=⟨_,rfl⟩
 have T:=λv κ (J:bD 27 8 ((insAt x.kids j y).map U.cs) v κ)=>U.csv_frz (x:={x with kids:=insAt x.kids j y}) J
 rw[aw]at N M D ⊢
 have X:ys.take 8=ys:=take_of_length_le (by omega)
 generalize (insAt x.kids j y).map U.cs=rows2 at*
 rw[U.cs_eq x]
 (repeat' (first|(with_reducible refine aa N ?_)|simp only[EVz,seval,↓reduceIte,EV6,EV7,q1,q2,D,X,length_map,F]|simp only[EVz,seval,↓reduceIte,EV6,EV7,q1,q2,D,X,length_map]|(with_reducible intro be O;(try(have I:=O;simp only[EVK]at I;first|(have F:=AI I F)|(have F:=I))))|(with_reducible first|refine ae ?_ ?_|refine af ?_)|(refine aT [] ((_,_)::(_,_)::(_,_)::(_,_)::[]) ah.v (ax.rfl' _) (SubN.refl _) (λv κ J E=>⟨_,SubN.pull4,?_⟩);have M:=M v κ J;have hv:=J;obtain⟨ba,cap,rfl,_⟩:=hv;simp only[length_map]at J M)|(refine⟨[ys],rfl,(by intro r Z;simp only[mem_singleton]at Z;subst Z;exact D),(by simp),?_⟩)|(refine aT (κ++[(_,_)]) [(_,_),(_,_),(_,_),(_,_)] (M _).v (ax.rfl' _) SubN.ins4 (λr1 bi Z bd=>?_);obtain⟨Y,V,rfl⟩:=Z;have an:=V;obtain⟨ac,bb,rfl,bh⟩:=an;refine⟨_,SubN.ins4',?_⟩)|fail))
 all_goals exact RET.mk' (σ':=Y++[(b,.cells 27 ys),(a,.cells 3 [.int .i64 j])]) SubN.back2 ⟨_,Y,_,rfl,T _ _ V,rfl,rfl⟩
set_option maxHeartbeats 4000000 in
theorem v201 (a j:Nat) (x:U) (hj:j<x.kids.length) (hl:x.kids.length<1000000):
  iV G (.func (.func 201) #[] #[.pointer (some ⟨a,0,none⟩)]) (λz=>{z with kids:=delAt z.kids j}) [(a,.cells 3 [.int .i64 j])] x:=by
 have V:=f203 G (x.kids.map U.cs) (dZ _) (by rw[length_map];omega)
 have X:(x.kids.map U.cs).take j++(x.kids.map U.cs).drop (j+1)=(delAt x.kids j).map U.cs:=by unfold delAt;rw[map_append,map_take,map_drop]
 have I:=λv κ F=>f202 G (x.kids.map U.cs) v κ F j (by rw[length_map];exact hj) (by rw[length_map];exact hl)
 rw[X]at I
 have hw:IntKind.i64.wrap ((j:Int)+1)=((j+1:Nat):Int):=by rw[aA (by omega) (by omega)];omega
 refine⟨_,_,_,rfl,?_⟩
 show ag G Tryz.prog 201 [.agg x.cs,.sc (.pointer (some ⟨a,0,none⟩))] _ _
 refine ag.freezeK (R1:=λσ'=>σ'=[(a,.cells 3 [.int .i64 j])]) ?_
 refine ag.w c201 ?_
 unfold s201 r201
 have M:=λv κ (F:bD 27 8 ((delAt x.kids j).map U.cs) v κ)=>U.csv_frz (x:={x with kids:=delAt x.kids j}) F
 generalize (delAt x.kids j).map U.cs=rows2 at*
 rw[U.cs_eq x]
 (repeat' (first|simp only[EVz,seval,↓reduceIte,EV6,EV7,hw,length_map,D]|simp only[EVz,seval,↓reduceIte,EV6,EV7,hw,length_map]|(with_reducible intro al J;(try(have E:=J;simp only[EVK]at E;first|(have D:=AI E D)|(have D:=E))))|(with_reducible first|refine ae ?_ ?_|refine af ?_)|(refine aT [] ((_,_)::(_,_)::(_,_)::[]) V.v (ax.rfl' _) (SubN.refl _) (λv κ F an=>⟨_,SubN.pull3,?_⟩);have I:=I v κ F;have hv:=F;obtain⟨Z,cap,rfl,_⟩:=hv;simp only[length_map]at F I)|(refine aT κ [(_,_),(_,_),(_,_)] I.v (ax.rfl' _) SubN.del3 (λr1 O N ah=>?_);have Y:=N;obtain⟨T,ac,rfl,aw⟩:=Y;refine⟨_,SubN.del3',?_⟩)|fail))
 all_goals exact RET.mk' (σ':=O++[(a,.cells 3 [.int .i64 j])]) SubN.back1 ⟨_,O,_,rfl,M _ _ N,rfl,rfl⟩
theorem f115 (u:U) (hs:u.Short) (E:u.ids.Nodup) (i:Idd) (hi:i∈u.ids) (T:u.id≠i) (Y:∀p∈u.flat,p.kids.length<=64):Pure G Tryz.prog 115 [.agg u.cs,.agg i.cs] (.agg (without i u).cs):=by
 obtain⟨p,d,j,e1,e2,M⟩:=bt E hi T
 have hp:p∈u.flat:=by have:=aP u E M.mem;rw[M.fnd]at this;exact this
 have ac:=Y p hp
 have X:j<p.kids.length:=by
  obtain⟨a,k,b,s,_,X,_⟩:=M.split
  rw[s.eq,X,length_append,length_cons];omega
 have N:=f131 G i u hs E
 unfold gW at N
 rw[e1]at N
 have V:=λbn=>f118 G _ _ _ p.id u hs E M.mem (by rw[M.fnd];exact v201 G bn j p X (by omega))
 have Z:without i u=U.wth p.id (λy=>{y with kids:=delAt y.kids j}) u:=by unfold without;rw[e1]
 rw[Z]
 have D:=U.cs_len (U.wth p.id (λy=>{y with kids:=delAt y.kids j}) u)
 generalize (U.wth p.id (λy=>{y with kids:=delAt y.kids j}) u).cs=ys at*
 have J:ys.take 8=ys:=take_of_length_le (by omega)
 simp only[Idd.cs]at N V
 rw[U.cs_eq u]at N V ⊢
 refine Pure.w c115 λR hR=>?_
 unfold s115 r115
 (repeat' (first|(with_reducible refine aa N ?_)|simp only[EVz,seval,↓reduceIte,EV6,EV7,D,J,F]|simp only[EVz,seval,↓reduceIte,EV6,EV7,D,J]|(with_reducible intro ah O;(try(have I:=O;simp only[EVK]at I;first|(have F:=AI I F)|(have F:=I))))|(refine ce (V _).v (by refine⟨?_,λE=>?_⟩;(repeat(first|exact aM|(refine aD (by repeat(exact mem_cons_self)) ?_)));(simp only[Store.keys,map_cons,map_nil,nodup_cons,mem_cons,not_mem_nil,or_false,not_or,not_false_eq_true,true_and,nodup_nil,and_true,@eq_comm Nat]at E ⊢ <;>simp only[E,not_false_eq_true,and_self])) ?_)|fail))
 all_goals exact hR _ _ (.inl (.inl (by simp[D,J])))
theorem dG (e:Int):LeRep (.tup [.agg zU,.int .i64 e]) (aO (noU,e)):=LeRep.tup (.cons po (.cons (LeRep.refl _) .nil))
end
end Go.Av
