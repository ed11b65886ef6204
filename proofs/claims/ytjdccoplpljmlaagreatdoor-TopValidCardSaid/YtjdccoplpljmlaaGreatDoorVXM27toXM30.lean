/-
  ENACT, M27: a unit taken out; words, heading and label changed.
-/
import Derived.Test.YtjdccoplpljmlaaGreatDoorVXM26toXM20
namespace Go.Av
open Go Go.RowKit Go.Proofs List
set_option linter.unusedSimpArgs false
set_option linter.unusedVariables false
theorem eY {u:U} (h:Good u) (i:Idd) (q:U×Nat×Nat) (e:aM i u=some q):q.2.2<q.1.kids.length/\q.1.kids.length<=64/\Par i u q.1 q.2.1 q.2.2:=by
 by_cases hi:i∈u.ids
 ·obtain⟨p,d,j⟩:=q
  have E:=er u h.nd hi e
  obtain⟨a,k,b,s,_,I,_⟩:=E.split
  have F:=bI u h.nd E.mem
  rw[E.fnd]at F
  refine⟨?_,fm (h.node p F),E⟩
  show j<p.kids.length
  rw[s.eq,I,length_append,length_cons];omega
 ·unfold aM at e
  rw[(dS u).2 hi]at e
  simp at e
theorem good_hk {u:U} (h:Good u):∀i q,aM i u=some q->q.2.2<1000000:=λi q e=>by
 obtain⟨E,F,_⟩:=eY h i q e
 omega
theorem mC {u:U} (h:Good u) (i:Idd):(fnd i u).kids.length<=64:=by
 by_cases hi:i∈u.ids
 ·exact fm (h.node _ (bI u h.nd hi))
 ·unfold fnd
  rw[(dS u).2 hi]
  simp[noU]
theorem nP {u:U} (h:Good u):∀i w q,spot u i w=some q->q.2<1000000:=λi w q e=>by
 unfold spot at e
 split at e
 ·injection e with e;subst e;simp
 ·split at e
  ·injection e with e;subst e
   have:=mC h i
   simp only;omega
  ·cases E:aM i u with
   |none=>rw[E]at e;cases e
   |some r=>
    rw[E]at e
    obtain⟨F,I,_⟩:=eY h i r E
    injection e with e;subst e
    simp only
    split<;>omega
section
variable (G:Glob)
theorem f279 (u:U) (O:Good u) (i:Idd) (hi:i∈u.ids) (N:u.id≠i):Pure G Tryz.prog 279 [.agg u.cs,.agg i.cs] (.agg (aL i u).cs):=by
 have hs:=O.short
 obtain⟨p,d,j,V,e2,Y⟩:=cg O.nd hi N
 obtain⟨hj,M,_⟩:=eY O i _ V
 simp only at hj M
 have T:=f286 G i u hs O.nd
 unfold kl at T
 rw[V]at T
 have Z:=λbn=>f276 G _ _ _ p.id u hs O.nd Y.mem (by rw[Y.fnd];exact d333 G bn j p hj (by omega))
 have X:aL i u=U.wth p.id (λy=>{y with kids:=cx y.kids j}) u:=by unfold aL;rw[V]
 rw[X]
 simp only[Idd.cs]at T Z
 refine Pure.w c279 λR hR=>?_
 unfold s279 r279
 (repeat' (first|(with_reducible refine aa T ?_)|simp only[EVz,seval,↓reduceIte,EV6,EV7,E]|simp only[EVz,seval,↓reduceIte,EV6,EV7]|(with_reducible intro I J;(try(have F:=J;simp only[EVK]at F;first|(have E:=AI F E)|(have E:=F))))|(refine bC [(I,_)] [(_,_),(_,_)] (Z I).v (aA.rfl' _) (SubN.refl _) (λr1 ad hr ac=>?_))|(obtain⟨rfl,rfl⟩:=hr)|(refine⟨_,SubN.refl _,?_⟩)))
 all_goals exact RQ hR
theorem f231 (u:U) (T:Good u) (x:U) (hi:x.id∈u.ids) (F:u.id≠x.id) (d:Dd):Pure G Tryz.prog 231 [.agg u.cs,.agg x.cs,.agg d.cs] (cJ (aL x.id u,0)):=by
 have M:=f279 G u T x.id hi F
 simp only[Idd.cs]at M
 unfold Dd.cs
 rw[U.cs_eq x,Itm.cs_eq]
 refine Pure.w c231 λR O=>?_
 unfold s231 r231
 (repeat' (first|(with_reducible refine aa M ?_)|simp only[EVz,seval,↓reduceIte,EV6,EV7,J]|simp only[EVz,seval,↓reduceIte,EV6,EV7]|(with_reducible intro N E;(try(have I:=E;simp only[EVK]at I;(have J:=I))))))
 all_goals exact RQ O
theorem f232 (u:U) (Z:Good u) (x:U) (hi:x.id∈u.ids) (d:Dd) (hw:x.words.length<=256) (hk:d.it.kind=2) (ho:d.it.old≠[]) (T:d.it.old.length<=256) (O:d.it.new.length<=256) (hn:0<=d.it.nth/\d.it.nth<=256):
  Pure G Tryz.prog 232 [.agg u.cs,.agg x.cs,.agg d.cs] (cJ (if (bJ x.words d.it d.act d.item).2≠0 then (u,(bJ x.words d.it d.act d.item).2)else (U.wth x.id (λy=>{y with words:=(bJ x.words d.it d.act d.item).1}) u,0))):=by
 have hs:=Z.short
 have M:=f280 G x.words d.it d.act d.item hw hk ho T O hn
 unfold iO at M
 obtain⟨⟨w,e⟩,V⟩:∃q,bJ x.words d.it d.act d.item=q:=⟨_,rfl⟩
 rw[V]at M ⊢
 have X:=λbw=>f276 G _ _ _ x.id u hs Z.nd hi (d281 G bw w _)
 simp only[Idd.cs]at X M
 unfold Dd.cs
 rw[U.cs_eq x,Itm.cs_eq]
 refine Pure.w c232 λR N=>?_
 unfold s232 r232
 simp only at N
 rcases Classical.em (e=0)with h|h
 ·subst h
  rw[if_neg (by simp)]at N
  (repeat' (first|(with_reducible refine aa M ?_)|simp only[EVz,seval,↓reduceIte,EV6,EV7,E]|simp only[EVz,seval,↓reduceIte,EV6,EV7]|(with_reducible intro J I;(try(have F:=I;simp only[EVK]at F;first|(have E:=AI F E)|(have E:=F))))|(refine bC [(J,_)] [(_,_)] (X J).v (aA.rfl' _) (SubN.refl _) (λr1 ac hr Y=>?_))|(obtain⟨rfl,rfl⟩:=hr)|(refine⟨_,SubN.refl _,?_⟩)))
  all_goals exact RQ N
 ·rw[if_pos h]at N
  (repeat' (first|(with_reducible (refine ab (λh=>?_) (λh=>?_))<;>(try simp only[DZ]at h))|(with_reducible refine aa M ?_)|simp only[EVz,seval,↓reduceIte,EV6,EV7,h,E]|simp only[EVz,seval,↓reduceIte,EV6,EV7,h]|(with_reducible intro J I;(try(have F:=I;simp only[EVK]at F;first|(have E:=AI F E)|(have E:=F))))|(exfalso;omega)))
  all_goals exact RQ N
theorem f233 (u:U) (hu:Good u) (x:U) (hi:x.id∈u.ids) (d:Dd) (hw:x.words.length<=256) (hk:d.it.kind=3) (X:d.it.old.length<=256) (V:d.it.new.length<=256) (T:1<=d.it.new.length) (hn:0<=d.it.nth/\d.it.nth<=256) (O:d.it.old=[]->d.it.nth=0):
  Pure G Tryz.prog 233 [.agg u.cs,.agg x.cs,.agg d.cs] (cJ (if (bJ x.words d.it d.act d.item).2≠0 then (u,(bJ x.words d.it d.act d.item).2)else (U.wth x.id (λy=>{y with words:=(bJ x.words d.it d.act d.item).1}) u,0))):=by
 have hs:=hu.short
 have M:=f282 G x.words d.it d.act d.item hw hk X V T hn O
 unfold iO at M
 obtain⟨⟨w,e⟩,Y⟩:∃q,bJ x.words d.it d.act d.item=q:=⟨_,rfl⟩
 rw[Y]at M ⊢
 have Z:=λbw=>f276 G _ _ _ x.id u hs hu.nd hi (d283 G bw w _)
 simp only[Idd.cs]at Z M
 unfold Dd.cs
 rw[U.cs_eq x,Itm.cs_eq]
 refine Pure.w c233 λR N=>?_
 unfold s233 r233
 simp only at N
 rcases Classical.em (e=0)with h|h
 ·subst h
  rw[if_neg (by simp)]at N
  (repeat' (first|(with_reducible refine aa M ?_)|simp only[EVz,seval,↓reduceIte,EV6,EV7,E]|simp only[EVz,seval,↓reduceIte,EV6,EV7]|(with_reducible intro J I;(try(have F:=I;simp only[EVK]at F;first|(have E:=AI F E)|(have E:=F))))|(refine bC [(J,_)] [(_,_)] (Z J).v (aA.rfl' _) (SubN.refl _) (λr1 ad hr ac=>?_))|(obtain⟨rfl,rfl⟩:=hr)|(refine⟨_,SubN.refl _,?_⟩)))
  all_goals exact RQ N
 ·rw[if_pos h]at N
  (repeat' (first|(with_reducible (refine ab (λh=>?_) (λh=>?_))<;>(try simp only[DZ]at h))|(with_reducible refine aa M ?_)|simp only[EVz,seval,↓reduceIte,EV6,EV7,h,E]|simp only[EVz,seval,↓reduceIte,EV6,EV7,h]|(with_reducible intro J I;(try(have F:=I;simp only[EVK]at F;first|(have E:=AI F E)|(have E:=F))))|(exfalso;omega)))
  all_goals exact RQ N
theorem f234 (u:U) (V:Good u) (x:U) (hi:x.id∈u.ids) (d:Dd) (Z:d.it.new.length<=256):
  Pure G Tryz.prog 234 [.agg u.cs,.agg x.cs,.agg d.cs] (cJ (U.wth x.id (λy=>{y with head:=aW d.act d.item d.it.new 0}) u,0)):=by
 have hs:=V.short
 have M:=f284 G d.it.new d.act d.item 0 (by omega) (by omega) (by omega)
 obtain⟨w,N⟩:∃q,aW d.act d.item d.it.new 0=q:=⟨_,rfl⟩
 rw[N]at M ⊢
 have O:=λX=>f276 G _ _ _ x.id u hs V.nd hi (d285 G X w _)
 simp only[Idd.cs]at O M
 unfold Dd.cs
 rw[U.cs_eq x,Itm.cs_eq]
 refine Pure.w c234 λR Y=>?_
 unfold s234 r234
 (repeat' (first|(with_reducible refine aa M ?_)|simp only[EVz,seval,↓reduceIte,EV6,EV7,E]|simp only[EVz,seval,↓reduceIte,EV6,EV7]|(with_reducible intro I J;(try(have F:=J;simp only[EVK]at F;first|(have E:=AI F E)|(have E:=F))))|(refine bC [(I,_)] [(_,_)] (O I).v (aA.rfl' _) (SubN.refl _) (λr1 ac hr T=>?_))|(obtain⟨rfl,rfl⟩:=hr)|(refine⟨_,SubN.refl _,?_⟩)))
 all_goals exact RQ Y
variable (hG:GOk G)
include hG
theorem f235 (u:U) (V:Good u) (x:U) (hx:x=fnd x.id u) (hi:x.id∈u.ids) (T:u.id≠x.id) (d:Dd):
  Pure G Tryz.prog 235 [.agg u.cs,.agg x.cs,.agg d.cs] (cJ (if d9 (parR x.id u).1 (parR x.id u).1.kids {x with label:=d.it.label}=10 then (u,10)else (U.wth x.id (λy=>{y with label:=d.it.label}) u,0))):=by
 have hs:=V.short
 obtain⟨p,dd,j,e1,e2,e3⟩:=cg V.nd hi T
 obtain⟨hj,O,_⟩:=eY V _ _ e1
 simp only at hj O
 have M:=f286 G x.id u hs V.nd
 unfold kl at M
 rw[e1]at M
 have J:=f111 G p.id u hs
 unfold ja at J
 rw[fU e3.mem,if_neg (by simp),e3.fnd]at J
 have N:=f272 G hG p {x with label:=d.it.label} (by omega)
 have Y:=λbd=>f276 G _ _ _ x.id u hs V.nd hi (d287 G bd d _)
 rw[e2]
 simp only
 obtain⟨t,ht⟩:∃t,d9 p p.kids {x with label:=d.it.label}=t:=⟨_,rfl⟩
 rw[ht]at N ⊢
 rw[U.cs_eq {x with label:=d.it.label}]at N
 simp only[Idd.cs]at Y M J N
 unfold Dd.cs at Y ⊢
 rw[Itm.cs_eq]at Y ⊢
 rw[U.cs_eq x]
 refine Pure.w c235 λR X=>?_
 unfold s235 r235
 rcases Classical.em (t=10)with h|h
 ·subst h
  rw[if_pos rfl]at X
  (repeat' (first|(with_reducible first|refine aa M ?_|refine aa J ?_|refine aa N ?_)|simp only[EVz,seval,↓reduceIte,EV6,EV7,E]|simp only[EVz,seval,↓reduceIte,EV6,EV7]|(with_reducible intro ac I;(try(have F:=I;simp only[EVK]at F;first|(have E:=AI F E)|(have E:=F))))))
  all_goals exact RQ X
 ·rw[if_neg h]at X
  (repeat' (first|(with_reducible first|refine aa M ?_|refine aa J ?_|refine aa N ?_)|simp only[EVz,seval,↓reduceIte,EV6,EV7,h,E]|simp only[EVz,seval,↓reduceIte,EV6,EV7,h]|(with_reducible intro ac I;(try(have F:=I;simp only[EVK]at F;first|(have E:=AI F E)|(have E:=F))))))
  rename_i b4 _ _ _ Z _ _ _ b6 _ _ _ b8 _ _ _
  refine bC [(Z,_)] [_,_,_,_] (Y Z).v (aA.rfl' _) (SubN.perm (perm_middle (l₁:=[_,_,_]) (l₂:=[_])).symm) (λr1 ag hr ad=>?_)
  obtain⟨rfl,rfl⟩:=hr
  refine⟨_,SubN.refl _,?_⟩
  have q1:¬Z=b6:=by have:=E;intro e;subst e;simp at this
  (repeat' (simp only[EVz,seval,↓reduceIte,EV6,EV7,q1,E]))
  all_goals exact RQ X
end
theorem oE {G:Glob} {P:Program} {f:Value} {args:List AV} {x:Nat×AObj} {σ:Store} {K:AV->Store->Prop} {t:Tag K} {v:AV}
  (h:cn G P f args [x] λr σ'=>r=v/\σ'=[x]) (E:K v (x::σ)):CALL G P f args (x::σ) K t:=
 aP [x] σ h (aA.rfl' _) (SubN.refl _) (by rintro _ _ ⟨rfl,rfl⟩;exact E)
theorem spot_le {u:U} (h:Good u) {i q:Idd} {wh:Int} {k:Nat} (e:spot u i wh=some (q,k)):k<=(fnd q u).kids.length:=by
 unfold spot at e
 split at e
 ·injection e with e;injection e with E F;omega
 ·split at e
  ·injection e with e;injection e with E F;subst E;omega
  ·obtain⟨⟨p,d,j⟩,E,F⟩:=Option.map_eq_some_iff.1 e
   obtain⟨I,M,J⟩:=eY h i _ E
   injection F with e3 e4
   subst e3
   rw[J.fnd]
   show k<=p.kids.length
   change j<p.kids.length at I
   simp only at e4
   split at e4<;>omega
theorem anc_len {u:U} {q:Idd} (E:q∈u.ids):(anc q u).length+1=(U.way q u).length:=by
 unfold anc
 rw[length_reverse,length_map,length_dropLast]
 have:=gx E
 omega
theorem SubN.six {n x a b c d:Nat×AObj}:SubN [n,x,a,b,c,d] [a,x,b,n,c,d]:=
 SubN.perm ((perm_middle (l₁:=[a,x,b]) (l₂:=[c,d])).trans (List.Perm.cons _ (List.Perm.swap _ _ _))).symm
section
variable (G:Glob) (hG:GOk G)
include hG
set_option maxHeartbeats 4000000 in
theorem f230 (u:U) (O:Good u) (y:U) (d:Dd) (i:Idd) (hO:one u d.it.at_=(i,0)) (bb:d.it.kind=0) (h0:0<=d.it.wh) (h3:d.it.wh<=3) (Y:Unit0 d) (hp:d.it.at_.length<1000000) (cp:d.it.to_.length<1000000):
  Pure G Tryz.prog 230 [.agg u.cs,.agg y.cs,.agg d.cs] (cJ (insP u i d)):=by
 have hs:=O.short
 have bw:=O.cnt
 have hi:i∈u.ids:=by have:=cM (u:=u) (p:=d.it.at_);rw[hO]at this;exact this rfl
 have I:=f270 G u d.it hs bw O.nd (good_hk O) (nP O) (.inl bb) h0 h3 hp cp
 have al:dest u d.it=(match spot u i d.it.wh with|none=>.inr 9|some q=>.inl q):=by
  unfold dest
  rw[hO]
  simp[bb]
  rfl
 rw[al]at I
 unfold insP
 have ac:=λq k=>kk (q:=q) (k:=k) O.nd hi (wh:=d.it.wh)
 have Z:=λq k=>spot_le (q:=q) (k:=k) (i:=i) (wh:=d.it.wh) O
 obtain⟨z,hz⟩:∃z,spot u i d.it.wh=z:=⟨_,rfl⟩
 rw[hz]at I ac Z ⊢
 unfold cH at I
 unfold Dd.cs
 rw[U.cs_eq y]
 rcases z with _|⟨q,k⟩
 ·refine Pure.w c230 λR M=>?_
  unfold s230 r230
  unfold cJ at M
  simp only at I M
  rw[Itm.cs_eq]at I ⊢
  (repeat' (first|(with_reducible refine aa I ?_)|simp only[EVz,seval,↓reduceIte,EV6,EV7,E]|simp only[EVz,seval,↓reduceIte,EV6,EV7]|(with_reducible intro T J;(try(have F:=J;simp only[EVK]at F;first|(have E:=AI F E)|(have E:=F))))))
  all_goals exact RQ M
 ·have hq:=ac q k rfl
  have bd:=Z q k rfl
  simp only at I ⊢
  have cw:=fE Y.nodes (by have:=Y.cnt;omega)
  have N:=f271 G d.it.unit d.act d.item cw (by have h1:=wt_le Y.nodes;have h2:=Y.cnt;omega)
  obtain⟨s1,s2,s3,s4,s5⟩:=lD d.it.unit d.act d.item Y.nodes
  obtain⟨x,hx⟩:∃x,cI d.it.unit d.act d.item=x:=⟨_,rfl⟩
  rw[hx]at N s1 s2 s3 s4 s5 ⊢
  have ad:x.Short:=fE s5 (by rw[s3];have:=Y.cnt;omega)
  have X:=f111 G q u hs
  unfold ja at X
  rw[fU hq,if_neg (by simp)]at X
  have cl:=mC O q
  have ah:=anc_len hq
  have V:=f273 G u q x hs.1 ad.1
  have be:=f39 G u hs.1
  have bk:=f39 G x ad.1
  have bm:=f10 G u hs.1
  have bo:=f10 G x ad.1
  have hT:=f272 G hG (fnd q u) x (by omega)
  have dc:x.ids.length=x.flat.length:=by unfold U.ids;rw[length_map]
  have d3:u.ids.length=u.flat.length:=by unfold U.ids;rw[length_map]
  have d4:x.flat.length<=1024:=by rw[s3];exact Y.cnt
  have ag:=λbh=>f274k G [(bh,.cells 32 [.lst 3 (u.ids.map Idd.cs)])] (.func (.func 275) #[] #[.pointer (some ⟨bh,0,none⟩)]) (λk=>decide (k∈u.ids)) x.ids (by omega)
   (λw _=>⟨_,_,_,rfl,f275 G bh u.ids w (by omega)⟩)
  have hW:=λbn bx=>f276 G _ _ _ q u hs O.nd hq (d277 G bn bx k x _ bd (by omega))
  have d1:(0:Int)<=x.cnt/\x.cnt<=1024:=by unfold U.cnt;omega
  have d0:(0:Int)<=u.cnt/\u.cnt<=1024:=by unfold U.cnt;omega
  have w3:IntKind.i64.wrap (u.cnt+x.cnt)=u.cnt+x.cnt:=av (by omega) (by omega)
  rw[←ah]
  clear s1 s2 s4 al ac Z cl
  obtain⟨P,hP⟩:∃P,fnd q u=P:=⟨_,rfl⟩
  rw[hP]at X hT bd ⊢
  obtain⟨t,ht⟩:∃t,d9 P P.kids x=t:=⟨_,rfl⟩
  rw[ht]at hT ⊢
  obtain⟨an,bp⟩:∃an,(anc q u).length=an:=⟨_,rfl⟩
  rw[bp]at V ⊢
  obtain⟨ex,ch⟩:∃ex,x.ids.any (λk=>decide (k∈u.ids))=ex:=⟨_,rfl⟩
  rw[ch]at ag ⊢
  simp only[Idd.cs]at X V hW
  rw[U.cs_eq P]at X hT
  unfold cJ
  rw[show(((an+1:Nat):Int))=(an:Int)+1 by omega]
  refine Pure.w c230 λR M=>?_
  unfold s230 r230
  rw[Itm.cs_eq]at I ⊢
  rw[U.cs_eq d.it.unit]at N
  rcases Classical.em (t=0)with h|h
  ·subst h
   rw[if_neg (by simp)]at M
   (repeat' (first|(with_reducible (first|refine ab (λh=>?_) (λh=>?_)|refine ai (λh=>?_) (λh=>?_))<;>(try simp only[DZ]at h))|(with_reducible first|refine aa I ?_|refine aa X ?_|refine aa N ?_|refine aa hT ?_|refine aa V ?_|refine aa be ?_|refine aa bk ?_|refine aa bm ?_|refine aa bo ?_)|simp only[EVz,seval,↓reduceIte,EV6,EV7,w3,E]|simp only[EVz,seval,↓reduceIte,EV6,EV7,w3]|(with_reducible intro T J;(try(have F:=J;simp only[EVK]at F;first|(have E:=AI F E)|(have E:=F))))|(with_reducible first|refine ae ?_ ?_|refine af ?_)|(refine oE (ag T).v ?_)))
   all_goals try(
    refine M _ _ (.inl (.inl ?_))
    rw[if_pos (by first|exact .inl (by omega)|exact .inr (.inl (by omega))|exact .inr (.inr (by omega)))]
    done)
   all_goals
    have cm:¬(64<=P.kids.length\/8<(an:Int)+1+x.dep\/1024<u.cnt+x.cnt):=by omega
    rw[if_neg cm]at M
   all_goals try(
    refine M _ _ (.inl (.inl ?_))
    rw[if_pos (by assumption)]
    done)
   all_goals
    have aw:ex=false:=by assumption
    rw[aw]at M
    simp only[Bool.false_eq_true,if_false]at M
    refine bC [(_,_),(_,_)] [_,_,_,_] (hW _ _).v (aA.rfl' _) SubN.six (λr1 dd hr d2=>?_)
    obtain⟨rfl,rfl⟩:=hr
    refine⟨_,SubN.refl _,?_⟩
    (repeat' (simp only[EVz,seval,↓reduceIte,EV6,EV7,E]))
    all_goals exact RQ M
  ·rw[if_pos h]at M
   (repeat' (first|(with_reducible (first|refine ab (λh=>?_) (λh=>?_)|refine ai (λh=>?_) (λh=>?_))<;>(try simp only[DZ]at h))|(with_reducible first|refine aa I ?_|refine aa X ?_|refine aa N ?_|refine aa hT ?_)|simp only[EVz,seval,↓reduceIte,EV6,EV7,h,E]|simp only[EVz,seval,↓reduceIte,EV6,EV7,h]|(with_reducible intro T J;(try(have F:=J;simp only[EVK]at F;first|(have E:=AI F E)|(have E:=F))))|(with_reducible first|refine ae ?_ ?_|refine af ?_)|(exfalso;omega)))
   all_goals exact RQ M
end
theorem nM {u:U} (h:Good u) {i t:Idd} (hi:i∈u.ids) (I:u.id≠i) (Y:t∈u.ids) {wh:Int} (h0:0<=wh) (h3:wh<=3) {q:Idd} {k:Nat} (e:eS u i t wh=some (q,k)):q∈u.ids/\q∉(fnd i u).ids/\q∈(aL i u).ids:=by
 obtain⟨g1,g2,g3,A,B,hA,Z,e2⟩:=fC h hi I
 obtain⟨own,dO,j,w1,w2,T⟩:=cg h.nd hi I
 obtain⟨a,x,b,s,hx,hj,hl⟩:=T.split
 have N:fnd i u=x:=aQ hl
 have F:q∈u.ids/\q∉(fnd i u).ids:=by
  unfold eS at e
  rw[w1]at e
  simp only at e
  split at e
  ·cases e
  ·rename_i X
   rw[not_or]at X
   split at e
   ·injection e with e;injection e with e3 e4
    subst e3
    refine⟨T.mem,?_⟩
    rw[N]
    have:=(U.nd_kids T.nd).2
    rw[s.eq,U.idss_app,U.idss_cons]at this
    exact λE=>this (mem_append.2 (.inr (mem_append.2 (.inl E))))
   ·rename_i V
    obtain⟨⟨q',k'⟩,J,e6⟩:=Option.map_eq_some_iff.1 e
    injection e6 with e7 e8
    subst e7
    have hr:¬(besides wh=true/\t=u.id):=by
     rintro⟨r1,r2⟩
     have M:wh=2\/wh=3:=by simpa[besides]using r1
     unfold spot at J
     rw[dG r2.symm]at J
     rcases M with M|M<;>simp[M]at J
    obtain⟨P,dp,k2,O⟩:=mM h.nd Y h0 h3 hr
    have:=O.spot
    rw[J]at this
    injection this with this
    injection this with e9 e10
    simp only at e9 ⊢
    rw[e9]
    refine⟨O.mem,O.out i hi λE=>?_⟩
    exact X.1 ((iP u h.nd Y hi).2 ⟨V,E⟩)
 refine⟨F.1,F.2,?_⟩
 rw[e2]
 have:=F.1
 rw[Z]at this
 rcases mem_append.1 this with E|E
 ·exact mem_append.2 (.inl E)
 ·rcases mem_append.1 E with E|E
  ·exact absurd E F.2
  ·exact mem_append.2 (.inr E)
theorem nV {i:Idd} {f:U->U}:∀us:List U,(U.wths i f us).length=us.length
 |[]=>by rw[U.wths_nil]
 |u::us=>by
  rw[U.wths_cons]
  split
  ·rw[length_cons,length_cons,nV us]
  ·rfl
theorem nQ {u:U} (h:Good u) {i q:Idd} (hi:i∈u.ids) (ac:u.id≠i) (T:q∈u.ids) (I:q∉(fnd i u).ids) {own:U} {X j:Nat} (V:aM i u=some (own,X,j)):
  (fnd q (aL i u)).kids.length=if q=own.id then own.kids.length-1 else (fnd q u).kids.length:=by
 have O:=er u h.nd hi V
 obtain⟨a,x,b,s,hx,Z,hl⟩:=O.split
 have N:fnd i u=x:=aQ hl
 rw[N]at I
 have Y:aL i u=U.wth own.id (λy=>{y with kids:=cx y.kids j}) u:=by unfold aL;rw[V]
 subst Z
 have J:=way_out (t:=q) h.nd O s.eq I
 have E:=(fj u h.nd T).2
 have M:fnd q (aL i u)=U.wth own.id (λy=>{y with kids:=cx y.kids a.length}) (fnd q u):=by
  rw[Y]
  refine aQ ?_
  rw[J,getLast?_map,E,Option.map_some]
 rw[M]
 by_cases F:q=own.id
 ·subst F
  rw[if_pos rfl,O.fnd,cC rfl,s.eq]
  simp only
  rw[cz,length_append,length_append,length_cons];omega
 ·rw[if_neg F,U.wth_eq,if_neg (by rw[(fj u h.nd T).1];exact F)]
  exact nV _
theorem goes_le {u:U} (h:Good u) {i t:Idd} (hi:i∈u.ids) (F:u.id≠i) (Z:t∈u.ids) {wh:Int} (V:0<=wh) (X:wh<=3) {q:Idd} {k:Nat} (e:eS u i t wh=some (q,k)):k<=(fnd q (aL i u)).kids.length:=by
 obtain⟨m1,m2,m3⟩:=nM h hi F Z V X e
 obtain⟨own,dO,j,N,w2,Y⟩:=cg h.nd hi F
 obtain⟨p1,p2,_⟩:=eY h i _ N
 change j<own.kids.length at p1
 rw[nQ h hi F m1 m2 N]
 unfold eS at e
 rw[N]at e
 simp only at e
 split at e
 ·cases e
 ·split at e
  ·injection e with e;injection e with e3 e4
   rw[if_pos e3.symm];omega
  ·obtain⟨⟨q',k'⟩,O,T⟩:=Option.map_eq_some_iff.1 e
   have M:=spot_le h O
   injection T with e7 e8
   simp only at e7 e8
   subst e7
   by_cases E:q'=own.id
   ·rw[if_pos E]
    rw[E,Y.fnd]at M
    split at e8
    ·omega
    ·rename_i I
     have:¬j<k':=λJ=>I ⟨E,J⟩
     omega
   ·rw[if_neg E]
    split at e8
    ·rename_i I;exact absurd I.1 E
    ·omega
theorem SubN.seven {n x a b c d e:Nat×AObj}:SubN [n,x,a,b,c,d,e] [a,b,c,n,d,e,x]:=
 SubN.perm ((perm_middle (l₁:=[a,b,c]) (l₂:=[d,e,x])).trans (List.Perm.cons _ (perm_middle (l₁:=[a,b,c,d,e]) (l₂:=[])))).symm
section
variable (G:Glob)
theorem mZ (u X:U) (d:Dd) (e:Int) (M:e≠0) (E:Pure G Tryz.prog 270 [.agg u.cs,.agg d.it.cs] (cH (.inr e))):Pure G Tryz.prog 236 [.agg u.cs,.agg X.cs,.agg d.cs] (cJ (u,e)):=by
 unfold cH at E
 unfold Dd.cs cJ
 rw[Itm.cs_eq]at E ⊢
 rw[U.cs_eq X]
 refine Pure.w c236 λR O=>?_
 unfold s236 r236
 (repeat' (first|(with_reducible (refine ab (λh=>?_) (λh=>?_))<;>(try simp only[DZ]at h))|(with_reducible refine aa E ?_)|simp only[EVz,seval,↓reduceIte,EV6,EV7,M,F]|simp only[EVz,seval,↓reduceIte,EV6,EV7,M]|(with_reducible intro N J;(try(have I:=J;simp only[EVK]at I;first|(have F:=AI I F)|(have F:=I))))|(exfalso;omega)))
 all_goals exact RQ O
end
section
variable (G:Glob) (hG:GOk G)
include hG
set_option maxHeartbeats 4000000 in
theorem f236 (u:U) (M:Good u) (d:Dd) (i:Idd) (hO:one u d.it.at_=(i,0)) (I:u.id≠i) (bh:d.it.kind=6) (h0:0<=d.it.wh) (h3:d.it.wh<=3) (hp:d.it.at_.length<1000000) (cl:d.it.to_.length<1000000):
  Pure G Tryz.prog 236 [.agg u.cs,.agg (fnd i u).cs,.agg d.cs] (cJ (if (one u d.it.to_).2≠0 then (u,(one u d.it.to_).2)else movP u i (one u d.it.to_).1 d)):=by
 have hs:=M.short
 have bw:=M.cnt
 have hi:i∈u.ids:=by have:=cM (u:=u) (p:=d.it.at_);rw[hO]at this;exact this rfl
 have E:=f270 G u d.it hs bw M.nd (good_hk M) (nP M) (.inr bh) h0 h3 hp cl
 have ac:=(fj u M.nd hi).1
 have aw:=bI u M.nd hi
 have Z:=cM (u:=u) (p:=d.it.to_)
 have bd:dest u d.it=if (one u d.it.to_).2≠0 then .inr (one u d.it.to_).2 else (match eS u i (one u d.it.to_).1 d.it.wh with|none=>.inr 9|some q=>.inl q):=by
  unfold dest
  rw[hO]
  simp[bh]
  rfl
 rw[bd]at E
 obtain⟨⟨t,e⟩,cp⟩:∃z,one u d.it.to_=z:=⟨_,rfl⟩
 rw[cp]at E Z ⊢
 simp only at E Z ⊢
 rcases Classical.em (e=0)with he|he
 ·subst he
  rw[if_neg (by simp)]at E ⊢
  have ht:=Z rfl
  have al:=λq k=>nM (q:=q) (k:=k) M hi I ht h0 h3
  have ah:=λq k=>goes_le (q:=q) (k:=k) M hi I ht h0 h3
  unfold movP
  obtain⟨z,hz⟩:∃z,eS u i t d.it.wh=z:=⟨_,rfl⟩
  rw[hz]at E al ah ⊢
  rcases z with _|⟨q,k⟩
  ·exact mZ G u _ d 9 (by omega) E
  ·obtain⟨m1,m2,m3⟩:=al q k rfl
   have Y:=ah q k rfl
   obtain⟨g1,g2,g3,g4⟩:=fC M hi I
   obtain⟨own,dO,j,w1,w2,cm⟩:=cg M.nd hi I
   have hP:=f286 G i u hs M.nd
   unfold kl at hP
   rw[w1]at hP
   have T:=f279 G u M i hi I
   have bb:(fnd i u).Short:=hs.node aw
   rw[w2]
   simp only
   obtain⟨V,hV⟩:∃V,aL i u=V:=⟨_,rfl⟩
   rw[hV]at T g1 m3 Y ⊢
   have ag:=g1.short
   have hF:=f111 G q V ag
   unfold ja at hF
   rw[fU m3,if_neg (by simp)]at hF
   have be:=mC g1 q
   have ad:=anc_len m3
   have d0:=g1.cnt
   clear al ah bd Z g4 g2 g3 w1 w2 cm hz m1 m2
   obtain⟨X,hX⟩:∃X,fnd i u=X:=⟨_,rfl⟩
   rw[hX]at ac aw bb ⊢
   subst ac
   have N:=f273 G V q X ag.1 bb.1
   have hT:=f272 G hG (fnd q V) X (by omega)
   have hW:=λbn bx=>f276 G _ _ _ q V ag g1.nd m3 (d288 G bn bx k X _ Y (by omega))
   obtain⟨P,bo⟩:∃P,fnd q V=P:=⟨_,rfl⟩
   rw[bo]at hF hT Y be ⊢
   obtain⟨tk,cw⟩:∃tk,d9 P P.kids X=tk:=⟨_,rfl⟩
   rw[cw]at hT ⊢
   rw[←ad]
   obtain⟨an,bp⟩:∃an,(anc q V).length=an:=⟨_,rfl⟩
   rw[bp]at N ⊢
   unfold cH at E
   simp only[Idd.cs]at hF N hP T hW
   simp only at E
   rw[U.cs_eq P]at hF hT
   rw[U.cs_eq X]at hT N hW ⊢
   unfold Dd.cs cJ
   rw[show(((an+1:Nat):Int))=(an:Int)+1 by omega]
   refine Pure.w c236 λR hR=>?_
   unfold s236 r236
   rw[Itm.cs_eq]at E ⊢
   rcases Classical.em (tk=0)with h|h
   ·subst h
    rw[if_neg (by simp)]at hR
    (repeat' (first|(with_reducible (first|refine ab (λh=>?_) (λh=>?_)|refine ai (λh=>?_) (λh=>?_))<;>(try simp only[DZ]at h))|(with_reducible first|refine aa E ?_|refine aa hP ?_|refine aa T ?_|refine aa hF ?_|refine aa hT ?_|refine aa N ?_)|simp only[EVz,seval,↓reduceIte,EV6,EV7,idd_eq,F]|simp only[EVz,seval,↓reduceIte,EV6,EV7,idd_eq]|(with_reducible intro bm O;(try(have J:=O;simp only[EVK]at J;first|(have F:=AI J F)|(have F:=J))))))
    all_goals try(
     refine hR _ _ (.inl (.inl ?_))
     rw[if_pos (by first|exact .inl ⟨by assumption,by omega⟩|exact .inr (by omega))]
     done)
    all_goals
     have ch:¬((q≠own.id/\64<=P.kids.length)\/8<(an:Int)+1+X.dep):=by
      rintro(⟨g2,g3⟩|g4)
      ·first
        |omega
        |exact g2 (by assumption)
      ·omega
     rw[if_neg ch]at hR
     refine bC [(_,_),(_,_)] [_,_,_,_,_] (hW _ _).v (aA.rfl' _) SubN.seven (λr1 d1 hr bk=>?_)
     obtain⟨rfl,rfl⟩:=hr
     refine⟨_,SubN.refl _,?_⟩
     have F:=bk
     simp[Store.keys]at F
     (repeat' (simp only[EVz,seval,↓reduceIte,EV6,EV7,F]))
     all_goals exact RQ hR
   ·rw[if_pos h]at hR
    have h1:decide (tk≠0)=true:=decide_eq_true h
    clear N hW be ad Y
    (repeat' (first|(with_reducible first|refine aa E ?_|refine aa hP ?_|refine aa T ?_|refine aa hF ?_|refine aa hT ?_)|simp only[EVz,seval,↓reduceIte,EV6,EV7,h1,F]|simp only[EVz,seval,↓reduceIte,EV6,EV7,h1]|(with_reducible intro bm O;(try(have J:=O;simp only[EVK]at J;first|(have F:=AI J F)|(have F:=J))))))
    all_goals exact RQ hR
 ·rw[if_pos he]at E ⊢
  exact mZ G u _ d e he E
end
end Go.Av
