/-
  ENACT, M29: where a moved unit goes, in the tree without it.
-/
import Derived.Test.YtnoakpkjccigoaaGreatDoorXM27toXV4
import Derived.Test.YtnoakpkjccigoaaGreatDoorXL34toXM3
import Derived.Test.YtnoakpkjccigoaaGreatDoorXV10toXV10b
namespace Go.Av
open Go Go.RowKit Go.Proofs List
set_option linter.unusedSimpArgs false
set_option linter.unusedVariables false
theorem nZ {u:U} (h:Good u) {i t:Idd} (hi:i∈u.ids) (hne:u.id≠i) (ht:t∈u.ids) {wh:Int} (h0:0<=wh) (h3:wh<=3) {q:Idd} {k:Nat} (e:dY u i t wh=some (q,k)):q∈u.ids/\q∉(fnd i u).ids/\q∈(without i u).ids:=by
 obtain⟨g1,g2,g3,A,B,hA,e1,e2⟩:=cN h hi hne
 obtain⟨own,dO,j,w1,w2,hp⟩:=bt h.nd hi hne
 obtain⟨a,x,b,s,hx,hj,hl⟩:=hp.split
 have hfx:fnd i u=x:=aB hl
 have hqu:q∈u.ids/\q∉(fnd i u).ids:=by
  unfold dY at e
  rw[w1]at e
  simp only at e
  split at e
  ·cases e
  ·rename_i hc
   rw[not_or]at hc
   split at e
   ·injection e with e;injection e with e3 e4
    subst e3
    refine⟨hp.mem,?_⟩
    rw[hfx]
    have:=(U.nd_kids hp.nd).2
    rw[s.eq,U.idss_app,U.idss_cons]at this
    exact λhm=>this (mem_append.2 (.inr (mem_append.2 (.inl hm))))
   ·rename_i hti
    obtain⟨⟨q',k'⟩,e5,e6⟩:=Option.map_eq_some_iff.1 e
    injection e6 with e7 e8
    subst e7
    have hr:¬(besides wh=true/\t=u.id):=by
     rintro⟨r1,r2⟩
     have hh:wh=2\/wh=3:=by simpa[besides]using r1
     unfold spot at e5
     rw[cB r2.symm]at e5
     rcases hh with hh|hh<;>simp[hh]at e5
    obtain⟨P,dp,k2,hg⟩:=jP h.nd ht h0 h3 hr
    have:=hg.spot
    rw[e5]at this
    injection this with this
    injection this with e9 e10
    simp only at e9 ⊢
    rw[e9]
    refine⟨hg.mem,hg.out i hi λhm=>?_⟩
    exact hc.1 ((gl u h.nd ht hi).2 ⟨hti,hm⟩)
 refine⟨hqu.1,hqu.2,?_⟩
 rw[e2]
 have:=hqu.1
 rw[e1]at this
 rcases mem_append.1 this with hm|hm
 ·exact mem_append.2 (.inl hm)
 ·rcases mem_append.1 hm with hm|hm
  ·exact absurd hm hqu.2
  ·exact mem_append.2 (.inr hm)
theorem og {i:Idd} {f:U->U}:∀us:List U,(U.wths i f us).length=us.length
 |[]=>by rw[U.wths_nil]
 |u::us=>by
  rw[U.wths_cons]
  split
  ·rw[length_cons,length_cons,og us]
  ·rfl
theorem nQ {u:U} (h:Good u) {i q:Idd} (hi:i∈u.ids) (hne:u.id≠i) (hq:q∈u.ids) (hqi:q∉(fnd i u).ids) {own:U} {dO j:Nat} (w1:aF i u=some (own,dO,j)):
  (fnd q (without i u)).kids.length=if q=own.id then own.kids.length-1 else (fnd q u).kids.length:=by
 have hp:=et u h.nd hi w1
 obtain⟨a,x,b,s,hx,hj,hl⟩:=hp.split
 have hfx:fnd i u=x:=aB hl
 rw[hfx]at hqi
 have hW:without i u=U.wth own.id (λy=>{y with kids:=delAt y.kids j}) u:=by unfold without;rw[w1]
 subst hj
 have hway:=way_out (t:=q) h.nd hp s.eq hqi
 have hlast:=(cS u h.nd hq).2
 have hf2:fnd q (without i u)=U.wth own.id (λy=>{y with kids:=delAt y.kids a.length}) (fnd q u):=by
  rw[hW]
  refine aB ?_
  rw[hway,getLast?_map,hlast,Option.map_some]
 rw[hf2]
 by_cases hqo:q=own.id
 ·subst hqo
  rw[if_pos rfl,hp.fnd,bA rfl,s.eq]
  simp only
  rw[bO,length_append,length_append,length_cons];omega
 ·rw[if_neg hqo,U.wth_eq,if_neg (by rw[(cS u h.nd hq).1];exact hqo)]
  exact og _
theorem goes_le {u:U} (h:Good u) {i t:Idd} (hi:i∈u.ids) (hne:u.id≠i) (ht:t∈u.ids) {wh:Int} (h0:0<=wh) (h3:wh<=3) {q:Idd} {k:Nat} (e:dY u i t wh=some (q,k)):k<=(fnd q (without i u)).kids.length:=by
 obtain⟨m1,m2,m3⟩:=nZ h hi hne ht h0 h3 e
 obtain⟨own,dO,j,w1,w2,hp⟩:=bt h.nd hi hne
 obtain⟨p1,p2,_⟩:=ei h i _ w1
 change j<own.kids.length at p1
 rw[nQ h hi hne m1 m2 w1]
 unfold dY at e
 rw[w1]at e
 simp only at e
 split at e
 ·cases e
 ·split at e
  ·injection e with e;injection e with e3 e4
   rw[if_pos e3.symm];omega
  ·obtain⟨⟨q',k'⟩,e5,e6⟩:=Option.map_eq_some_iff.1 e
   have hsl:=spot_le h e5
   injection e6 with e7 e8
   simp only at e7 e8
   subst e7
   by_cases hqo:q'=own.id
   ·rw[if_pos hqo]
    rw[hqo,hp.fnd]at hsl
    split at e8
    ·omega
    ·rename_i hc
     have:¬j<k':=λhjk=>hc ⟨hqo,hjk⟩
     omega
   ·rw[if_neg hqo]
    split at e8
    ·rename_i hc;exact absurd hc.1 hqo
    ·omega
theorem SubN.seven {n x a b c d e:Nat×AObj}:SubN [n,x,a,b,c,d,e] [a,b,c,n,d,e,x]:=
 SubN.perm ((perm_middle (l₁:=[a,b,c]) (l₂:=[d,e,x])).trans (List.Perm.cons _ (perm_middle (l₁:=[a,b,c,d,e]) (l₂:=[])))).symm
section
variable (G:Glob)
theorem nu (u X:U) (d:Dd) (e:Int) (he:e≠0) (hDe:Pure G Tryz.prog 144 [.agg u.cs,.agg d.it.cs] (cI (.inr e))):Pure G Tryz.prog 98 [.agg u.cs,.agg X.cs,.agg d.cs] (aO (u,e)):=by
 unfold cI at hDe
 unfold Dd.cs aO
 rw[Itm.cs_eq]at hDe ⊢
 rw[U.cs_eq X]
 refine Pure.w c98 λR hR=>?_
 unfold s98 r98
 (repeat' (first|(with_reducible (refine ab (λh=>?_) (λh=>?_))<;>(try simp only[Da,Db,Dc,Dw,De,Df,Dg,Dh]at h))|(with_reducible refine aa hDe ?_)|simp only[EVz,seval,↓reduceIte,EV6,EV7,he,hne]|simp only[EVz,seval,↓reduceIte,EV6,EV7,he]|(with_reducible intro blk hblk;(try(have hnx:=hblk;simp only[EVK]at hnx;first|(have hne:=AI hnx hne)|(have hne:=hnx))))|(exfalso;omega)|fail))
 all_goals exact RQ hR
end
section
variable (G:Glob) (hG:GOk G)
include hG
set_option maxHeartbeats 4000000 in
theorem f98 (u:U) (hu:Good u) (d:Dd) (i:Idd) (hO:one u d.it.at_=(i,0)) (hne0:u.id≠i) (hk6:d.it.kind=6) (h0:0<=d.it.wh) (h3:d.it.wh<=3) (hp:d.it.at_.length<1000000) (hp2:d.it.to_.length<1000000):
  Pure G Tryz.prog 98 [.agg u.cs,.agg (fnd i u).cs,.agg d.cs] (aO (if (one u d.it.to_).2≠0 then (u,(one u d.it.to_).2)else movP u i (one u d.it.to_).1 d)):=by
 have hs:=hu.short
 have hcu:=hu.cnt
 have hi:i∈u.ids:=by have:=bZ (u:=u) (p:=d.it.at_);rw[hO]at this;exact this rfl
 have hDe:=f144 G u d.it hs hcu hu.nd (good_hk hu) (nj hu) (.inr hk6) h0 h3 hp hp2
 have hXid:=(cS u hu.nd hi).1
 have hXf:=aP u hu.nd hi
 have htm:=bZ (u:=u) (p:=d.it.to_)
 have hde:dest u d.it=if (one u d.it.to_).2≠0 then .inr (one u d.it.to_).2 else (match dY u i (one u d.it.to_).1 d.it.wh with|none=>.inr 9|some q=>.inl q):=by
  unfold dest
  rw[hO]
  simp[hk6]
  rfl
 rw[hde]at hDe
 obtain⟨⟨t,e⟩,hte⟩:∃z,one u d.it.to_=z:=⟨_,rfl⟩
 rw[hte]at hDe htm ⊢
 simp only at hDe htm ⊢
 rcases Classical.em (e=0)with he|he
 ·subst he
  rw[if_neg (by simp)]at hDe ⊢
  have ht:=htm rfl
  have hgm:=λq k=>nZ (q:=q) (k:=k) hu hi hne0 ht h0 h3
  have hgl:=λq k=>goes_le (q:=q) (k:=k) hu hi hne0 ht h0 h3
  unfold movP
  obtain⟨z,hz⟩:∃z,dY u i t d.it.wh=z:=⟨_,rfl⟩
  rw[hz]at hDe hgm hgl ⊢
  rcases z with _|⟨q,k⟩
  ·exact nu G u _ d 9 (by omega) hDe
  ·obtain⟨m1,m2,m3⟩:=hgm q k rfl
   have hkl:=hgl q k rfl
   obtain⟨g1,g2,g3,g4⟩:=cN hu hi hne0
   obtain⟨own,dO,j,w1,w2,hpp⟩:=bt hu.nd hi hne0
   have hP:=f131 G i u hs hu.nd
   unfold gW at hP
   rw[w1]at hP
   have hWo:=f156 G u hu i hi hne0
   have hXs:(fnd i u).Short:=hs.node hXf
   rw[w2]
   simp only
   obtain⟨V,hV⟩:∃V,without i u=V:=⟨_,rfl⟩
   rw[hV]at hWo g1 m3 hkl ⊢
   have hVs:=g1.short
   have hF:=f44 G q V hVs
   unfold gV at hF
   rw[fG m3,if_neg (by simp)]at hF
   have hfk:=gq g1 q
   have hanc:=mh m3
   have hvl:=g1.cnt
   clear hgm hgl hde htm g4 g2 g3 w1 w2 hpp hz m1 m2
   obtain⟨X,hX⟩:∃X,fnd i u=X:=⟨_,rfl⟩
   rw[hX]at hXid hXf hXs ⊢
   subst hXid
   have hDp:=f147 G V q X hVs.1 hXs.1
   have hT:=f146 G hG (fnd q V) X (by omega)
   have hW:=λbn bx=>f153 G _ _ _ q V hVs g1.nd m3 (d164 G bn bx k X _ hkl (by omega))
   obtain⟨P,hPe⟩:∃P,fnd q V=P:=⟨_,rfl⟩
   rw[hPe]at hF hT hkl hfk ⊢
   obtain⟨tk,htk⟩:∃tk,dR P P.kids X=tk:=⟨_,rfl⟩
   rw[htk]at hT ⊢
   rw[←hanc]
   obtain⟨an,han⟩:∃an,(anc q V).length=an:=⟨_,rfl⟩
   rw[han]at hDp ⊢
   unfold cI at hDe
   simp only[Idd.cs]at hF hDp hP hWo hW
   simp only at hDe
   rw[U.cs_eq P]at hF hT
   rw[U.cs_eq X]at hT hDp hW ⊢
   unfold Dd.cs aO
   rw[show(((an+1:Nat):Int))=(an:Int)+1 by omega]
   refine Pure.w c98 λR hR=>?_
   unfold s98 r98
   rw[Itm.cs_eq]at hDe ⊢
   rcases Classical.em (tk=0)with h|h
   ·subst h
    rw[if_neg (by simp)]at hR
    (repeat' (first|(with_reducible (first|refine ab (λh=>?_) (λh=>?_)|refine ai (λh=>?_) (λh=>?_))<;>(try simp only[Da,Db,Dc,Dw,De,Df,Dg,Dh]at h))|(with_reducible first|refine aa hDe ?_|refine aa hP ?_|refine aa hWo ?_|refine aa hF ?_|refine aa hT ?_|refine aa hDp ?_)|simp only[EVz,seval,↓reduceIte,EV6,EV7,idd_eq,hne]|simp only[EVz,seval,↓reduceIte,EV6,EV7,idd_eq]|(with_reducible intro blk hblk;(try(have hnx:=hblk;simp only[EVK]at hnx;first|(have hne:=AI hnx hne)|(have hne:=hnx))))|fail))
    all_goals try(
     refine hR _ _ (.inl (.inl ?_))
     rw[if_pos (by first|exact .inl ⟨by assumption,by omega⟩|exact .inr (by omega))]
     done)
    all_goals
     have hno:¬((q≠own.id/\64<=P.kids.length)\/8<(an:Int)+1+X.dep):=by
      rintro(⟨g2,g3⟩|g4)
      ·first
        |omega
        |exact g2 (by assumption)
      ·omega
     rw[if_neg hno]at hR
     refine aT [(_,_),(_,_)] [_,_,_,_,_] (hW _ _).v (ax.rfl' _) SubN.seven (λr1 σ1 hr hnd2=>?_)
     obtain⟨rfl,rfl⟩:=hr
     refine⟨_,SubN.refl _,?_⟩
     have hne:=hnd2
     simp[Store.keys]at hne
     (repeat' (simp only[EVz,seval,↓reduceIte,EV6,EV7,hne]))
     all_goals exact RQ hR
   ·rw[if_pos h]at hR
    have h1:decide (tk≠0)=true:=decide_eq_true h
    clear hDp hW hfk hanc hkl
    (repeat' (first|(with_reducible first|refine aa hDe ?_|refine aa hP ?_|refine aa hWo ?_|refine aa hF ?_|refine aa hT ?_)|simp only[EVz,seval,↓reduceIte,EV6,EV7,h1,hne]|simp only[EVz,seval,↓reduceIte,EV6,EV7,h1]|(with_reducible intro blk hblk;(try(have hnx:=hblk;simp only[EVK]at hnx;first|(have hne:=AI hnx hne)|(have hne:=hnx))))|fail))
    all_goals exact RQ hR
 ·rw[if_pos he]at hDe ⊢
  exact nu G u _ d e he hDe
end
def fc:List (Int×AV):=[(0,fnv 92),(1,fnv 93),(2,fnv 94),(3,fnv 95),(4,fnv 96),(5,fnv 97),(6,fnv 98)]
theorem cE:∀τ w,Rep τ w (.sc .nilFunc) .nilFunc:=by
 intro τ w
 simp only[Rep]
theorem do_none {k:Int} (h:¬(0<=k/\k<=6)):aS k fc=none:=by
 simp only[fc,aS]
 rw[if_neg (by omega),if_neg (by omega),if_neg (by omega),if_neg (by omega),if_neg (by omega),if_neg (by omega),if_neg (by omega)]
theorem may_cnt {x:Itm} (h:x.may=true) (hk:x.kind=0):x.unit.flat.length<=1024:=by
 have:=gj h
 unfold Itm.own at this
 simp only[hk,if_true,Bool.and_eq_true]at this
 have h2:=this.2.1
 rw[gZ]at h2
 unfold bareOk2 treeOk2 at h2
 simp only[Bool.and_eq_true,decide_eq_true_eq]at h2
 have h3:=h2.1.2.2.1
 unfold U.cnt at h3
 omega
theorem ns {x:Itm} (h:x.may=true) (hk:x.kind=2\/x.kind=3):x.old.length<=256/\x.new.length<=256/\(0<=x.nth/\x.nth<=256)/\(x.kind=2->x.old≠[])/\(x.kind=3->1<=x.new.length/\(x.old=[]->x.nth=0)):=by
 have:=gj h
 unfold Itm.own cX inR at this
 rcases hk with hk|hk
 ·rw[if_neg (by omega),if_pos hk]at this
  simp only[Bool.and_eq_true,decide_eq_true_eq]at this
  obtain⟨⟨a1,a2⟩,⟨b1,b2⟩,c1,c2⟩:=this
  refine⟨(dB a1).2,(dB b1).2,⟨c1,c2⟩,λ_ e=>?_,λe=>?_⟩
  ·rw[e]at a2;simp at a2
  ·omega
 ·rw[if_neg (by omega),if_neg (by omega),if_pos hk]at this
  simp only[Bool.and_eq_true,Bool.or_eq_true,decide_eq_true_eq]at this
  obtain⟨⟨a1,a2⟩,⟨b1,b2⟩,⟨c1,c2⟩,d1⟩:=this
  refine⟨(dB a1).2,(dB b1).2,⟨c1,c2⟩,λe=>?_,λ_=>⟨by omega,λe=>?_⟩⟩
  ·omega
  ·rcases d1 with d1|d1
   ·rw[e]at d1;simp at d1
   ·exact d1
theorem oM {x:Itm} (h:x.may=true) (hk:x.kind=4):x.new.length<=256:=(dB (mp h (.inr (.inr hk)))).2
section
variable (G:Glob) (hG:GOk G)
include hG
omit hG in
theorem f46:ag G Tryz.prog 46 [] [] (λr σ=>∃b,r= .sc (.map (some b))/\σ=[(b,.map (cl intK fc))]):=by
 refine ag.w c46 ?_
 unfold s46 r46
 (try simp only[EVz,seval,↓reduceIte,EV6,EV7])
 refine cV ?_
 intro b hb
 (try simp only[EVz,seval,↓reduceIte,EV6,EV7])
 refine cA bg (l:=[]) (k:=0) (eT:=95) rfl (fT 0) rfl (by kernel_rfl) aQ ?_
 (repeat' (first|simp only[EVz,seval,↓reduceIte,EV6,EV7]|(refine cA bg (eT:=95) rfl (fT _) rfl (by kernel_rfl) aQ ?_)|fail))
 exact RET.mk (SubN.refl _) ⟨b,rfl,rfl⟩
omit hG in
set_option maxHeartbeats 8000000 in
theorem oK (u:U) (hu:Good u) (d:Dd) (hk:¬(0<=d.it.kind/\d.it.kind<=6)):Pure G Tryz.prog 18 [.agg u.cs,.agg d.cs] (aO (u,1)):=by
 have hD:=f46 G
 have hm1:=do_none hk
 have hcs:=U.cs_eq u
 unfold Dd.cs aO
 rw[Itm.cs_eq,hcs]
 refine Pure.w c18 λR hR=>?_
 unfold s18 r18
 (repeat' (first|simp only[EVz,seval,↓reduceIte,EV6,EV7,hm1,Option.getD_none,Option.isSome_none,hne]|simp only[EVz,seval,↓reduceIte,EV6,EV7,hm1,Option.getD_none,Option.isSome_none]|(with_reducible intro blk hblk;(try(have hnx:=hblk;simp only[EVK]at hnx;(have hne:=hnx))))|(refine av [] _ hD.v (ax.rfl' _) (SubN.refl _) (λr σ' hh hnd=>?_);obtain⟨bm,rfl,rfl⟩:=hh;(have hne:=hnd);(try simp[Store.keys]at hne))|(refine aG bg (l:=fc) (k:=d.it.kind) (z:=.nilFunc) (zv:=.sc .nilFunc) (eT:=95) rfl (bK _) (by kernel_rfl) (by exact aQ) (by kernel_rfl) cE ?_)|fail))
 all_goals exact RQ hR
set_option maxHeartbeats 8000000 in
theorem apply_of (u:U) (hu:Good u) (d:Dd) (hs:d.it.Shorts) (fn:Nat) (hm1:aS d.it.kind fc=some (fnv fn)) (q:U×Int)
  (hq:d.it.may=true->(one u d.it.at_).2=0->(d.it.kind=0\/(one u d.it.at_).1≠u.id)->Pure G Tryz.prog fn [.agg u.cs,.agg (fnd (one u d.it.at_).1 u).cs,.agg d.cs] (aO q)):
  Pure G Tryz.prog 18 [.agg u.cs,.agg d.cs] (aO (if d.it.may=false then (u,1)else if (one u d.it.at_).2≠0 then (u,(one u d.it.at_).2)else if d.it.kind=0\/(one u d.it.at_).1≠u.id then q else if d.it.kind=6/\(one u d.it.to_).2≠0 then (u,(one u d.it.to_).2)else (u,9))):=by
 have hsh:=hu.short
 obtain⟨q1,_⟩:=(Itm.Shorts_eq d.it).1 hs
 have hV:=f47 G hG d.it hs
 have hO:=f43 G u d.it.at_ hsh.1 hu.cnt q1.at_
 have hO2:=f43 G u d.it.to_ hsh.1 hu.cnt q1.to_
 have hD:=f46 G
 have hid:=bZ (u:=u) (p:=d.it.at_)
 have hFF:=λi=>f44 G i u hsh
 unfold lH at hO hO2
 obtain⟨⟨i,e⟩,hie⟩:∃z,one u d.it.at_=z:=⟨_,rfl⟩
 obtain⟨⟨t,e'⟩,hte⟩:∃z,one u d.it.to_=z:=⟨_,rfl⟩
 rw[hie]at hO hid hq ⊢
 rw[hte]at hO2 ⊢
 simp only at hO hO2 hid hq ⊢
 obtain⟨mv,hmv⟩:∃b,d.it.may=b:=⟨_,rfl⟩
 rw[hmv]at hV hq ⊢
 have hcs:=U.cs_eq u
 obtain⟨f,hf⟩:∃f,fnv fn= .sc f:=⟨_,rfl⟩
 have hfv:f= .func (.func fn) #[] #[]:=by unfold fnv at hf;injection hf with hf;exact hf.symm
 rw[hf]at hm1
 unfold Dd.cs at hq ⊢
 rw[Itm.cs_eq]at hV hq ⊢
 unfold aO at hq ⊢
 refine Pure.w c18 λR hR=>?_
 unfold s18 r18
 cases mv with
 |false=>
  rw[if_pos rfl]at hR
  rw[hcs]at hR ⊢
  (repeat' (first|(with_reducible refine aa hV ?_)|simp only[EVz,seval,↓reduceIte,EV6,EV7,hm1,Option.getD_some,Option.isSome_some,hne]|simp only[EVz,seval,↓reduceIte,EV6,EV7,hm1,Option.getD_some,Option.isSome_some]|(with_reducible intro blk hblk;(try(have hnx:=hblk;simp only[EVK]at hnx;(have hne:=hnx))))|(refine av [] _ hD.v (ax.rfl' _) (SubN.refl _) (λr σ' hh hnd=>?_);obtain⟨bm,rfl,rfl⟩:=hh;(have hne:=hnd);(try simp[Store.keys]at hne))|(refine aG bg (l:=fc) (k:=d.it.kind) (z:=.nilFunc) (zv:=.sc .nilFunc) (eT:=95) rfl (bK _) (by kernel_rfl) (by exact aQ) (by kernel_rfl) cE ?_)|fail))
  all_goals exact RQ hR
 |true=>
  rw[if_neg (by simp)]at hR
  rcases Classical.em (e=0)with h|h
  ·subst h
   rw[if_neg (by simp)]at hR
   have hi:=hid rfl
   have hF:=hFF i
   unfold gV at hF
   rw[fG hi,if_neg (by simp)]at hF
   clear hFF hid
   obtain⟨X,hX⟩:∃X,fnd i u=X:=⟨_,rfl⟩
   rw[hX]at hF hq
   rcases Classical.em (d.it.kind=0\/i≠u.id)with g|g
   ·rw[if_pos g]at hR
    have hC:=(hq rfl rfl g).v
    rw[←hfv]at hC
    rw[hcs]at hO hF hC ⊢
    simp only[Idd.cs]at hF
    rcases Classical.em (i=u.id)with g1|g1
    ·have g0:d.it.kind=0:=g.resolve_right (λh=>h g1)
     have e1:decide (i=u.id)=true:=decide_eq_true g1
     have e2:decide (d.it.kind=0)=true:=decide_eq_true g0
     (repeat' (first|(with_reducible first|refine aa hV ?_|refine aa hO ?_|refine aa hF ?_)|simp only[EVz,seval,↓reduceIte,EV6,EV7,hm1,Option.getD_some,Option.isSome_some,idd_eq,e1,e2,hne]|simp only[EVz,seval,↓reduceIte,EV6,EV7,hm1,Option.getD_some,Option.isSome_some,idd_eq,e1,e2]|(with_reducible intro blk hblk;(try(have hnx:=hblk;simp only[EVK]at hnx;first|(have hne:=AI hnx hne)|(have hne:=hnx))))|(refine av [] _ hD.v (ax.rfl' _) (SubN.refl _) (λr σ' hh hnd=>?_);obtain⟨bm,rfl,rfl⟩:=hh;(have hne:=hnd);(try simp[Store.keys]at hne))|(refine aG bg (l:=fc) (k:=d.it.kind) (z:=.nilFunc) (zv:=.sc .nilFunc) (eT:=95) rfl (bK _) (by kernel_rfl) (by exact aQ) (by kernel_rfl) cE ?_)|(refine aI hC ?_)|fail))
     all_goals exact RQ hR
    ·have e1:decide (i=u.id)=false:=decide_eq_false g1
     (repeat' (first|(with_reducible first|refine aa hV ?_|refine aa hO ?_|refine aa hF ?_)|simp only[EVz,seval,↓reduceIte,EV6,EV7,hm1,Option.getD_some,Option.isSome_some,idd_eq,e1,hne]|simp only[EVz,seval,↓reduceIte,EV6,EV7,hm1,Option.getD_some,Option.isSome_some,idd_eq,e1]|(with_reducible intro blk hblk;(try(have hnx:=hblk;simp only[EVK]at hnx;first|(have hne:=AI hnx hne)|(have hne:=hnx))))|(refine av [] _ hD.v (ax.rfl' _) (SubN.refl _) (λr σ' hh hnd=>?_);obtain⟨bm,rfl,rfl⟩:=hh;(have hne:=hnd);(try simp[Store.keys]at hne))|(refine aG bg (l:=fc) (k:=d.it.kind) (z:=.nilFunc) (zv:=.sc .nilFunc) (eT:=95) rfl (bK _) (by kernel_rfl) (by exact aQ) (by kernel_rfl) cE ?_)|(refine aI hC ?_)|fail))
     all_goals exact RQ hR
   ·rw[if_neg g]at hR
    rw[not_or,Classical.not_not]at g
    obtain⟨g0,g1⟩:=g
    have e1:decide (i=u.id)=true:=decide_eq_true g1
    have e2:decide (d.it.kind=0)=false:=decide_eq_false g0
    rw[hcs]at hO hO2 hF ⊢
    simp only[Idd.cs]at hF
    rcases Classical.em (d.it.kind=6)with k6|k6
    ·have e3:decide (d.it.kind=6)=true:=decide_eq_true k6
     rcases Classical.em (e'=0)with h'|h'
     ·subst h'
      rw[if_neg (by simp)]at hR
      simp only at hR
      rw[hcs]at hR
      (repeat' (first|(with_reducible first|refine aa hV ?_|refine aa hO ?_|refine aa hO2 ?_|refine aa hF ?_)|simp only[EVz,seval,↓reduceIte,EV6,EV7,hm1,Option.getD_some,Option.isSome_some,idd_eq,e1,e2,e3,hne]|simp only[EVz,seval,↓reduceIte,EV6,EV7,hm1,Option.getD_some,Option.isSome_some,idd_eq,e1,e2,e3]|(with_reducible intro blk hblk;(try(have hnx:=hblk;simp only[EVK]at hnx;first|(have hne:=AI hnx hne)|(have hne:=hnx))))|(refine av [] _ hD.v (ax.rfl' _) (SubN.refl _) (λr σ' hh hnd=>?_);obtain⟨bm,rfl,rfl⟩:=hh;(have hne:=hnd);(try simp[Store.keys]at hne))|(refine aG bg (l:=fc) (k:=d.it.kind) (z:=.nilFunc) (zv:=.sc .nilFunc) (eT:=95) rfl (bK _) (by kernel_rfl) (by exact aQ) (by kernel_rfl) cE ?_)|fail))
      all_goals exact RQ hR
     ·rw[if_pos ⟨k6,h'⟩]at hR
      simp only at hR
      rw[hcs]at hR
      (repeat' (first|(with_reducible (refine ab (λh=>?_) (λh=>?_))<;>(try simp only[Da,Db,Dc,Dw,De,Df,Dg,Dh]at h))|(with_reducible first|refine aa hV ?_|refine aa hO ?_|refine aa hO2 ?_|refine aa hF ?_)|simp only[EVz,seval,↓reduceIte,EV6,EV7,hm1,Option.getD_some,Option.isSome_some,idd_eq,e1,e2,e3,h',hne]|simp only[EVz,seval,↓reduceIte,EV6,EV7,hm1,Option.getD_some,Option.isSome_some,idd_eq,e1,e2,e3,h']|(with_reducible intro blk hblk;(try(have hnx:=hblk;simp only[EVK]at hnx;first|(have hne:=AI hnx hne)|(have hne:=hnx))))|(refine av [] _ hD.v (ax.rfl' _) (SubN.refl _) (λr σ' hh hnd=>?_);obtain⟨bm,rfl,rfl⟩:=hh;(have hne:=hnd);(try simp[Store.keys]at hne))|(refine aG bg (l:=fc) (k:=d.it.kind) (z:=.nilFunc) (zv:=.sc .nilFunc) (eT:=95) rfl (bK _) (by kernel_rfl) (by exact aQ) (by kernel_rfl) cE ?_)|(exfalso;omega)|fail))
      all_goals exact RQ hR
    ·have e3:decide (d.it.kind=6)=false:=decide_eq_false k6
     rw[if_neg (λh=>k6 h.1)]at hR
     simp only at hR
     rw[hcs]at hR
     (repeat' (first|(with_reducible first|refine aa hV ?_|refine aa hO ?_|refine aa hF ?_)|simp only[EVz,seval,↓reduceIte,EV6,EV7,hm1,Option.getD_some,Option.isSome_some,idd_eq,e1,e2,e3,hne]|simp only[EVz,seval,↓reduceIte,EV6,EV7,hm1,Option.getD_some,Option.isSome_some,idd_eq,e1,e2,e3]|(with_reducible intro blk hblk;(try(have hnx:=hblk;simp only[EVK]at hnx;first|(have hne:=AI hnx hne)|(have hne:=hnx))))|(refine av [] _ hD.v (ax.rfl' _) (SubN.refl _) (λr σ' hh hnd=>?_);obtain⟨bm,rfl,rfl⟩:=hh;(have hne:=hnd);(try simp[Store.keys]at hne))|(refine aG bg (l:=fc) (k:=d.it.kind) (z:=.nilFunc) (zv:=.sc .nilFunc) (eT:=95) rfl (bK _) (by kernel_rfl) (by exact aQ) (by kernel_rfl) cE ?_)|fail))
     all_goals exact RQ hR
  ·rw[if_pos h]at hR
   rw[hcs]at hO hR ⊢
   (repeat' (first|(with_reducible (refine ab (λh=>?_) (λh=>?_))<;>(try simp only[Da,Db,Dc,Dw,De,Df,Dg,Dh]at h))|(with_reducible first|refine aa hV ?_|refine aa hO ?_)|simp only[EVz,seval,↓reduceIte,EV6,EV7,hm1,Option.getD_some,Option.isSome_some,h,hne]|simp only[EVz,seval,↓reduceIte,EV6,EV7,hm1,Option.getD_some,Option.isSome_some,h]|(with_reducible intro blk hblk;(try(have hnx:=hblk;simp only[EVK]at hnx;first|(have hne:=AI hnx hne)|(have hne:=hnx))))|(refine av [] _ hD.v (ax.rfl' _) (SubN.refl _) (λr σ' hh hnd=>?_);obtain⟨bm,rfl,rfl⟩:=hh;(have hne:=hnd);(try simp[Store.keys]at hne))|(refine aG bg (l:=fc) (k:=d.it.kind) (z:=.nilFunc) (zv:=.sc .nilFunc) (eT:=95) rfl (bK _) (by kernel_rfl) (by exact aQ) (by kernel_rfl) cE ?_)|(exfalso;omega)|fail))
   all_goals exact RQ hR
end
def g9:List (Int×AV):=[(0,fnv 57),(1,fnv 59),(2,fnv 61),(3,fnv 63),(4,fnv 65),(5,fnv 67)]
theorem tak_none {k:Int} (h:¬(0<=k/\k<=5)):aS k g9=none:=by
 simp only[g9,aS]
 rw[if_neg (by omega),if_neg (by omega),if_neg (by omega),if_neg (by omega),if_neg (by omega),if_neg (by omega)]
theorem unit_eq (p:Pt):p.unit.cs=[.int .i64 p.unit.id.act,.int .i64 p.unit.id.item,.int .i64 p.unit.id.n,.int .i64 p.unit.kind,.str p.unit.label,.lst 4 (p.unit.head.map Wd.cs),.lst 4 (p.unit.words.map Wd.cs),.lst 8 (p.unit.kids.map U.cs)]:=U.cs_eq _
section
variable (G:Glob) (hG:GOk G)
include hG
theorem f57 (u:U) (hg:Good u) (p:Pt):Pure G Tryz.prog 57 [.agg u.cs,.agg p.cs] (aO (remT u p.id)):=by
 have hR0:=f58 G hG u hg p.id
 unfold aO
 have h1:=U.cs_len (remT u p.id).1
 have h2:=U.cs_len (remU u p.id)
 generalize (remT u p.id).1.cs=xs at*
 generalize (remT u p.id).2=e at*
 generalize (remU u p.id).cs=ys at*
 have h3:xs.take 8=xs:=take_of_length_le (by omega)
 have h4:ys.take 8=ys:=take_of_length_le (by omega)
 simp only[Idd.cs]at hR0
 unfold Pt.cs
 rw[U.cs_eq u]at hR0 ⊢
 refine Pure.w c57 λR hR=>?_
 unfold s57 r57
 (repeat' (first|(with_reducible refine aa hR0 ?_)|simp only[EVz,seval,↓reduceIte,EV6,EV7,h1,h2,h3,h4,hne]|simp only[EVz,seval,↓reduceIte,EV6,EV7,h1,h2,h3,h4]|(with_reducible intro blk hblk;(try(have hnx:=hblk;simp only[EVK]at hnx;first|(have hne:=AI hnx hne)|(have hne:=hnx))))|fail))
 all_goals exact hR _ _ (.inl (.inl (by rfl)))
theorem f59 (u:U) (hg:Good u) (h0:u.kind=0) (p:Pt) (hx:p.unit.Short) (hcx:p.unit.flat.length<=1000000):Pure G Tryz.prog 59 [.agg u.cs,.agg p.cs] (aO (insT u p.parent p.at_ p.unit)):=by
 have hR0:=f60 G hG u hg h0 p.parent p.at_ p.unit hx hcx
 unfold aO at hR0 ⊢
 have h1:=U.cs_len (insT u p.parent p.at_ p.unit).1
 generalize (insT u p.parent p.at_ p.unit).1.cs=xs at*
 generalize (insT u p.parent p.at_ p.unit).2=e at*
 have h3:xs.take 8=xs:=take_of_length_le (by omega)
 simp only[Idd.cs]at hR0
 rw[unit_eq p]at hR0
 unfold Pt.cs
 rw[U.cs_eq u]at hR0 ⊢
 refine Pure.w c59 λR hR=>?_
 unfold s59 r59
 (repeat' (first|(with_reducible refine aa hR0 ?_)|simp only[EVz,seval,↓reduceIte,EV6,EV7,h1,h3,hne]|simp only[EVz,seval,↓reduceIte,EV6,EV7,h1,h3]|(with_reducible intro blk hblk;(try(have hnx:=hblk;simp only[EVK]at hnx;(have hne:=hnx))))|fail))
 all_goals exact hR _ _ (.inl (.inl (by rfl)))
theorem f61 (u:U) (hg:Good u) (h0:u.kind=0) (p:Pt):Pure G Tryz.prog 61 [.agg u.cs,.agg p.cs] (aO (movT u p.id p.parent p.at_)):=by
 have hR0:=f62 G hG u hg h0 p.id p.parent p.at_
 unfold aO at hR0 ⊢
 have h1:=U.cs_len (movT u p.id p.parent p.at_).1
 generalize (movT u p.id p.parent p.at_).1.cs=xs at*
 generalize (movT u p.id p.parent p.at_).2=e at*
 have h3:xs.take 8=xs:=take_of_length_le (by omega)
 simp only[Idd.cs]at hR0
 unfold Pt.cs
 rw[U.cs_eq u]at hR0 ⊢
 refine Pure.w c61 λR hR=>?_
 unfold s61 r61
 (repeat' (first|(with_reducible refine aa hR0 ?_)|simp only[EVz,seval,↓reduceIte,EV6,EV7,h1,h3,hne]|simp only[EVz,seval,↓reduceIte,EV6,EV7,h1,h3]|(with_reducible intro blk hblk;(try(have hnx:=hblk;simp only[EVK]at hnx;(have hne:=hnx))))|fail))
 all_goals exact hR _ _ (.inl (.inl (by rfl)))
theorem f63 (u:U) (hg:Good u) (h0:u.kind=0) (p:Pt):Pure G Tryz.prog 63 [.agg u.cs,.agg p.cs] (aO (relT u p.id p.label)):=by
 have hR0:=f64 G hG u hg h0 p.id p.label
 unfold aO at hR0 ⊢
 have h1:=U.cs_len (relT u p.id p.label).1
 generalize (relT u p.id p.label).1.cs=xs at*
 generalize (relT u p.id p.label).2=e at*
 have h3:xs.take 8=xs:=take_of_length_le (by omega)
 simp only[Idd.cs]at hR0
 unfold Pt.cs
 rw[U.cs_eq u]at hR0 ⊢
 refine Pure.w c63 λR hR=>?_
 unfold s63 r63
 (repeat' (first|(with_reducible refine aa hR0 ?_)|simp only[EVz,seval,↓reduceIte,EV6,EV7,h1,h3,hne]|simp only[EVz,seval,↓reduceIte,EV6,EV7,h1,h3]|(with_reducible intro blk hblk;(try(have hnx:=hblk;simp only[EVK]at hnx;(have hne:=hnx))))|fail))
 all_goals exact hR _ _ (.inl (.inl (by rfl)))
theorem f65 (u:U) (hg:Good u) (p:Pt) (hl:p.words.length<1000000):Pure G Tryz.prog 65 [.agg u.cs,.agg p.cs] (aO (wrT u p.id p.words (λy=>{y with words:=p.words}))):=by
 have hR0:=f66 G hG u hg p.id p.words hl
 unfold aO at hR0 ⊢
 have h1:=U.cs_len (wrT u p.id p.words (λy=>{y with words:=p.words})).1
 generalize (wrT u p.id p.words (λy=>{y with words:=p.words})).1.cs=xs at*
 generalize (wrT u p.id p.words (λy=>{y with words:=p.words})).2=e at*
 have h3:xs.take 8=xs:=take_of_length_le (by omega)
 simp only[Idd.cs]at hR0
 unfold Pt.cs
 rw[U.cs_eq u]at hR0 ⊢
 refine Pure.w c65 λR hR=>?_
 unfold s65 r65
 (repeat' (first|(with_reducible refine aa hR0 ?_)|simp only[EVz,seval,↓reduceIte,EV6,EV7,h1,h3,hne]|simp only[EVz,seval,↓reduceIte,EV6,EV7,h1,h3]|(with_reducible intro blk hblk;(try(have hnx:=hblk;simp only[EVK]at hnx;(have hne:=hnx))))|fail))
 all_goals exact hR _ _ (.inl (.inl (by rfl)))
theorem f67 (u:U) (hg:Good u) (p:Pt) (hl:p.words.length<1000000):Pure G Tryz.prog 67 [.agg u.cs,.agg p.cs] (aO (wrT u p.id p.words (λy=>{y with head:=p.words}))):=by
 have hR0:=f68 G hG u hg p.id p.words hl
 unfold aO at hR0 ⊢
 have h1:=U.cs_len (wrT u p.id p.words (λy=>{y with head:=p.words})).1
 generalize (wrT u p.id p.words (λy=>{y with head:=p.words})).1.cs=xs at*
 generalize (wrT u p.id p.words (λy=>{y with head:=p.words})).2=e at*
 have h3:xs.take 8=xs:=take_of_length_le (by omega)
 simp only[Idd.cs]at hR0
 unfold Pt.cs
 rw[U.cs_eq u]at hR0 ⊢
 refine Pure.w c67 λR hR=>?_
 unfold s67 r67
 (repeat' (first|(with_reducible refine aa hR0 ?_)|simp only[EVz,seval,↓reduceIte,EV6,EV7,h1,h3,hne]|simp only[EVz,seval,↓reduceIte,EV6,EV7,h1,h3]|(with_reducible intro blk hblk;(try(have hnx:=hblk;simp only[EVK]at hnx;(have hne:=hnx))))|fail))
 all_goals exact hR _ _ (.inl (.inl (by rfl)))
omit hG
theorem f36:ag G Tryz.prog 36 [] [] (λr σ=>∃b,r= .sc (.map (some b))/\σ=[(b,.map (cl intK g9))]):=by
 refine ag.w c36 ?_
 unfold s36 r36
 (try simp only[EVz,seval,↓reduceIte,EV6,EV7])
 refine cV ?_
 intro b hb
 (try simp only[EVz,seval,↓reduceIte,EV6,EV7])
 refine cA bg (l:=[]) (k:=0) (eT:=41) rfl (fT 0) rfl (by kernel_rfl) aQ ?_
 (repeat' (first|simp only[EVz,seval,↓reduceIte,EV6,EV7]|(refine cA bg (eT:=41) rfl (fT _) rfl (by kernel_rfl) aQ ?_)|fail))
 exact RET.mk (SubN.refl _) ⟨b,rfl,rfl⟩
end
end Go.Av
