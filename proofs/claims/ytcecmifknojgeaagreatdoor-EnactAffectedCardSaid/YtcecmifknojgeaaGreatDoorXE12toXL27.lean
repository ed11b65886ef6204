/-
  ENACT, 12: a book stays one behind each item.
-/
import Derived.Test.YtcecmifknojgeaaGreatDoorXE9toXE11
import Derived.Test.YtcecmifknojgeaaGreatDoorXAv24toXAv26
import Derived.Test.YtcecmifknojgeaaGreatDoorXC1
import Derived.Test.YtcecmifknojgeaaGreatDoorXC2
import Derived.Test.YtcecmifknojgeaaGreatDoorXC3toXL4
import Derived.Test.YtcecmifknojgeaaGreatDoorXL14toXFrN
namespace Go.Av
open Go Go.RowKit Go.Proofs List
set_option linter.unusedSimpArgs false
set_option linter.unusedVariables false
theorem gO {x:Itm} (h:x.may=true):x.own (Itm.mayOne x.by_)=true:=by
 rw[Itm.may_eq,Bool.and_eq_true]at h
 exact h.2
theorem eM {x:Itm} (h:x.may=true) (hk:x.kind=0\/x.kind=6):0<=x.wh/\x.wh<=3:=by
 have:=gO h
 unfold Itm.own inR at this
 rcases hk with hk|hk<;>simp[hk]at this<;>omega
theorem ns {x:Itm} (h:x.may=true) (hk:x.kind=2\/x.kind=3\/x.kind=4):dU x.new=true:=by
 have:=gO h
 unfold Itm.own cY at this
 rcases hk with hk|hk|hk<;>simp[hk]at this<;>simp[this]
theorem o0 {x:Itm} (h:x.may=true) (hk:x.kind=5):bC x.label=true:=by
 have:=gO h
 unfold Itm.own at this
 simpa[hk]using this
theorem fh {x:Itm} (h:x.may=true) (hk:x.kind=0):∀y∈x.unit.flat,nodeOk y=true:=by
 have:=gO h
 unfold Itm.own at this
 simp only[hk,if_true,Bool.and_eq_true]at this
 have h2:=this.2.1
 rw[iw]at h2
 unfold gS cG at h2
 simp only[Bool.and_eq_true]at h2
 exact all_eq_true.1 h2.1.1
theorem kz {u:U} (hn:u.ids.Nodup) {i q:Idd} (hi:i∈u.ids) {wh:Int} {k:Nat} (h:spot u i wh=some (q,k)):q∈u.ids:=by
 unfold spot at h
 split at h
 ·injection h with h;injection h with h1 h2;subst h1;exact hi
 ·split at h
  ·injection h with h;injection h with h1 h2;subst h1;exact hi
  ·obtain⟨⟨p,d,j⟩,e,e2⟩:=Option.map_eq_some_iff.1 h
   injection e2 with e3 e4
   subst e3
   exact(eW u hn hi e).mem
theorem ins_good {u:U} (h:Good u) {i:Idd} (hi:i∈u.ids) {d:Dd} (hm:d.it.may=true) (hk:d.it.kind=0):Good (insP u i d).1/\Root u (insP u i d).1:=by
 unfold insP
 split
 ·exact⟨h,Root.refl u⟩
 ·rename_i q k e
  have hq:=kz h.nd hi e
  obtain⟨s1,s2,s3,s4,s5⟩:=dW d.it.unit d.act d.item (fh hm hk)
  obtain⟨x,hx⟩:∃x,stampU d.it.unit d.act d.item=x:=⟨_,rfl⟩
  rw[hx]at s1 s2 s3 s4 s5 ⊢
  split
  ·exact⟨h,Root.refl u⟩
  ·rename_i ht
   split
   ·exact⟨h,Root.refl u⟩
   ·rename_i hf
    split
    ·exact⟨h,Root.refl u⟩
    ·rename_i hx2
     simp only[not_or,Int.not_le,Int.not_lt,Nat.not_le]at hf
     obtain⟨f1,f2,f3⟩:=hf
     have hno:∀y∈x.ids,y∉u.ids:=by
      intro y hy hyu
      exact hx2 (any_eq_true.2 ⟨y,hy,decide_eq_true hyu⟩)
     refine⟨or h hq s5 ?_ ?_ k ht f1 ?_ ?_,gP (g:=λl=>aR l k x)⟩
     ·rw[nodup_append]
      refine⟨h.nd,by rw[s1];exact idRow_nd _ _ _ _,?_⟩
      intro a ha b hb e2
      subst e2
      exact hno a hb ha
     ·rw[s1];exact oU _ _ _
     ·unfold U.dep at f2;omega
     ·unfold U.cnt at f3;omega
theorem mov_good {u:U} (h:Good u) {i t:Idd} (hi:i∈u.ids) (hne:u.id≠i) (ht:t∈u.ids) {d:Dd} (h0:0<=d.it.wh) (h3:d.it.wh<=3):Good (movP u i t d).1/\Root u (movP u i t d).1:=by
 obtain⟨g1,g2,g3,A,B,hA,e1,e2⟩:=ff h hi hne
 obtain⟨own,dO,j,w1,w2,hp⟩:=aW h.nd hi hne
 obtain⟨a,x,b,s,hx,hj,hl⟩:=hp.split
 have hfx:fnd i u=x:=aF hl
 have hxf:=aM u h.nd hi
 unfold movP
 split
 ·exact⟨h,Root.refl u⟩
 ·rename_i q k e
  split
  ·exact⟨h,Root.refl u⟩
  ·rename_i htk
   split
   ·exact⟨h,Root.refl u⟩
   ·rename_i hf
    rw[not_or]at hf
    obtain⟨f1,f2⟩:=hf
    have hq:q∈(without i u).ids:=by
     have hqu:q∈u.ids/\q∉(fnd i u).ids:=by
      unfold fk at e
      rw[w1]at e
      simp only at e
      split at e
      ·cases e
      ·rename_i hc
       rw[not_or]at hc
       split at e
       ·injection e with e;injection e with e3 e4
        subst e3
        refine⟨hp.mem,?_⟩
        rw[hfx]
        have:=(U.nd_kids hp.nd).2
        rw[s.eq,U.idss_app,U.idss_cons]at this
        exact λhm=>this (mem_append.2 (.inr (mem_append.2 (.inl hm))))
       ·rename_i hti
        obtain⟨⟨q',k'⟩,e5,e6⟩:=Option.map_eq_some_iff.1 e
        injection e6 with e7 e8
        subst e7
        have hr:¬(besides d.it.wh=true/\t=u.id):=by
         rintro⟨r1,r2⟩
         have hh:d.it.wh=2\/d.it.wh=3:=by simpa[besides]using r1
         unfold spot at e5
         rw[cB r2.symm]at e5
         rcases hh with hh|hh<;>simp[hh]at e5
        obtain⟨P,dp,k2,hg⟩:=iP h.nd ht h0 h3 hr
        have:=hg.spot
        rw[e5]at this
        injection this with this
        injection this with e9 e10
        simp only at e9 ⊢
        rw[e9]
        refine⟨hg.mem,hg.out i hi λhm=>?_⟩
        exact hc.1 ((gI u h.nd ht hi).2 ⟨hti,hm⟩)
     rw[e2]
     have:=hqu.1
     rw[e1]at this
     rcases mem_append.1 this with hm|hm
     ·exact mem_append.2 (.inl hm)
     ·rcases mem_append.1 hm with hm|hm
      ·exact absurd hm hqu.2
      ·exact mem_append.2 (.inr hm)
    have hperm:((without i u).ids++(fnd i u).ids).Perm u.ids:=by
     rw[e2,e1];exact(nT A _ B).symm
    refine⟨or g1 hq (λz hz=>h.node z (fe hxf z hz)) (hperm.nodup_iff.2 h.nd) ?_ k htk ?_ ?_ ?_,g2.trans (gP (g:=λl=>aR l k (fnd i u)))⟩
    ·intro hz
     by_cases hk0:u.kind=0
     ·have hr:=h.root.1 hk0
      have hn:=h.nd
      rw[e1]at hn
      obtain⟨A',hA'⟩:=ids_root e1 hA
      subst hA'
      rw[cons_append,nodup_cons]at hn
      exact hn.1 (by rw[hr];exact mem_append.2 (.inr (mem_append.2 (.inl hz))))
     ·exact h.zero hk0 (nB h.nd hi hz)
    ·by_cases hqo:q=own.id
     ·
      subst hqo
      have hW:without i u=U.wth own.id (λy=>{y with kids:=aL y.kids j}) u:=by unfold without;rw[w1]
      have hown:own∈u.flat:=by
       have:=aM u h.nd hp.mem
       rw[hp.fnd]at this;exact this
      have hox:own.id∉x.ids:=by
       have:=(U.nd_kids hp.nd).2
       rw[s.eq,U.idss_app,U.idss_cons]at this
       exact λhm=>this (mem_append.2 (.inr (mem_append.2 (.inl hm))))
      subst hj
      have hway:=jg (t:=own.id) h.nd hp s.eq hox
      have hf2:fnd own.id (without i u)={own with kids:=a++b}:=by
       rw[hW]
       refine aF ?_
       rw[hway,getLast?_map,hp.last,Option.map_some,aZ rfl,s.eq,bG]
      rw[hf2]
      have:=cl (h.node own hown)
      rw[s.eq]at this
      simp at this ⊢
      omega
     ·rw[w2]at f1
      apply Classical.byContradiction
      intro hc
      exact f1 ⟨hqo,by omega⟩
    ·unfold U.dep at f2;omega
    ·have:=congrArg List.length e1
     have e3:=congrArg List.length e2
     rw[U.ids_len,length_append,length_append,U.ids_len]at this
     rw[U.ids_len,length_append]at e3
     have:=h.cnt
     omega
theorem m9 {u:U} (h:Good u) (d:Dd):Good (doP u d).1/\Root u (doP u d).1:=by
 have h0:Good u/\Root u u:=⟨h,Root.refl u⟩
 unfold doP
 split
 ·exact h0
 rename_i c1
 have hm:d.it.may=true:=by cases hh:d.it.may<;>simp_all
 split
 ·exact h0
 rename_i c2
 have hi:=bU (u:=u) (p:=d.it.at_) (by simpa using c2)
 obtain⟨i,hie⟩:∃i,(one u d.it.at_).1=i:=⟨_,rfl⟩
 rw[hie]at hi ⊢
 split
 ·rename_i k0
  exact ins_good h hi hm k0
 rename_i k0
 split
 ·split<;>exact h0
 rename_i hiu
 have hne:u.id≠i:=λe=>hiu e.symm
 have hk:=h.kind hi hne
 have hxf:=aM u h.nd hi
 have hnx:=h.node _ hxf
 split
 ·have:=ff h hi hne
  exact⟨this.1,this.2.1⟩
 split
 ·rename_i k2
  split
  ·exact h0
  ·rename_i he
   have hw:=editE_ok (a:=d.act) (b:=d.item) (kC hnx hk).2.2 (ns hm (by omega)) (by simpa using he)
   refine iD h hi hne (λ_=>rfl) (λ_=>rfl) (gV (f:=λy=>{y with words:=(editE (fnd i u).words d.it d.act d.item).1}) (λ_=>rfl) u h.nd hi h.node λz hz=>?_)
   rcases lw (y:=fnd i u) (z:={fnd i u with words:=(editE (fnd i u).words d.it d.act d.item).1}) rfl z hz with rfl|hz
   ·exact pe hnx hk hw
   ·exact h.node z (fe hxf z hz)
 split
 ·rename_i k4
  have hw:aS (markW d.act d.item d.it.new 0)=true:=by
   have:=ec (ns hm (.inr (.inr k4)))
   exact jp (ji this.1) (by rw[bq];omega)
  refine iD h hi hne (λ_=>rfl) (λ_=>rfl) (gV (f:=λy=>{y with head:=markW d.act d.item d.it.new 0}) (λ_=>rfl) u h.nd hi h.node λz hz=>?_)
  rcases lw (y:=fnd i u) (z:={fnd i u with head:=markW d.act d.item d.it.new 0}) rfl z hz with rfl|hz
  ·exact node_head hnx hk hw
  ·exact h.node z (fe hxf z hz)
 split
 ·rename_i k5
  split
  ·exact h0
  ·rename_i ht
   refine iD h hi hne (λ_=>rfl) (λ_=>rfl) (oc u h.nd hi hne h.node (o0 hm k5) (λp dd j e=>?_) hk)
   have hp:=eW u h.nd hi e
   obtain⟨a,k,b,s,hkk,hj,hl⟩:=hp.split
   have hpr:(parR i u).1=p:=by unfold parR;rw[eF u h.nd hi,e];rfl
   rw[hpr]at ht
   have hpf:p∈u.flat:=by
    have:=aM u h.nd hp.mem
    rw[hp.fnd]at this;exact this
   have hnest:=gh (h.node p hpf) k (by rw[s.eq];simp)
   have hfk:fnd i u=k:=aF hl
   rw[hfk]at ht ⊢
   cases htt:cK p.kids k.kind d.it.label with
   |false=>rfl
   |true=>exact absurd (by unfold bJ;simp only;rw[hnest,htt];simp) ht
 split
 ·exact h0
 rename_i c7
 have ht:=bU (u:=u) (p:=d.it.to_) (by simpa using c7)
 have hk6:d.it.kind=6:=by
  have:chg d.it.kind=true:=by cases hh:chg d.it.kind<;>simp_all
  simp only[chg,Bool.and_eq_true,decide_eq_true_eq]at this
  omega
 have hw:=eM hm (.inr hk6)
 exact mov_good h hi hne ht hw.1 hw.2
theorem nR {s:List UInt8} (h:bC s=true):s.length<=7:=by
 unfold bC at h
 simp only[Bool.and_eq_true,decide_eq_true_eq]at h
 omega
theorem Zx {l:List Wd} (h:aS l=true):l.length<=256/\∀w∈l,w.text.length<=24:=by
 unfold aS at h
 simp only[Bool.and_eq_true,decide_eq_true_eq]at h
 refine⟨by omega,λw hw=>?_⟩
 have:=all_eq_true.1 h.2 w hw
 unfold wdOk bQ at this
 simp only[Bool.and_eq_true,decide_eq_true_eq]at this
 omega
structure Slim (y:U):Prop where
 label:y.label.length<=7
 head:y.head.length<=256/\∀w∈y.head,w.text.length<=24
 words:y.words.length<=256/\∀w∈y.words,w.text.length<=24
 kids:y.kids.length<=64
theorem dk {y:U} (h:nodeOk y=true):Slim y:=by
 have hk:=cl h
 by_cases h0:y.kind=0
 ·unfold nodeOk own1 at h
  rw[if_pos h0]at h
  simp only[Bool.and_eq_true,decide_eq_true_eq]at h
  obtain⟨⟨h1,h2,h3⟩,_⟩:=h
  have e2:y.head=[]:=eq_nil_of_length_eq_zero (by omega)
  have e3:y.words=[]:=eq_nil_of_length_eq_zero (by omega)
  exact⟨by rw[h1];simp,by rw[e2];simp,by rw[e3];simp,hk⟩
 ·obtain⟨h1,h2,h3⟩:=kC h h0
  exact⟨nR h1,Zx h2,Zx h3,hk⟩
theorem slim_fit:∀u:U,(∀y∈u.flat,Slim y)->u.fit:=by
 refine U.ind λu ih h=>?_
 have hu:=h u u.flat_self
 refine(U.fit_eq u).2 ⟨by have:=hu.label;omega,⟨by have:=hu.head.1;omega,λx hx=>by have:=hu.head.2 x hx;omega⟩,⟨by have:=hu.words.1;omega,λx hx=>by have:=hu.words.2 x hx;omega⟩,by have:=hu.kids;omega,λk hk=>?_⟩
 exact ih k hk λy hy=>h y (U.flat_kid hk hy)
theorem cf {u:U} (h:∀y∈u.flat,nodeOk y=true) (hc:u.flat.length<1000000):u.Short:=by
 refine⟨⟨slim_fit u λy hy=>dk (h y hy),hc⟩,λx hx=>?_⟩
 have s:=dk (h x hx)
 exact⟨by have:=s.label;omega,by have:=s.head.1;omega,by have:=s.words.1;omega,λw hw=>by have:=s.head.2 w hw;omega,λw hw=>by have:=s.words.2 w hw;omega⟩
theorem Good.short {u:U} (h:Good u):u.Short:=cf h.node (by have:=h.cnt;omega)
end Go.Av
namespace Go.Av
open Go Go.RowKit List
set_option linter.unusedSimpArgs false
set_option linter.unusedVariables false
section
variable {G:Glob} {P:Program} {σ ρ:Store} {w:World} {env:Env} {K:AV->Store->Prop}
theorem cg {t tx e e':TypeId} {sz bytes:Nat} {x y:Operand} {rows ys:List (List AV)} {g:Option Nat} {xv:AV}
  (hu:P.underlying t=some (.slice e)) (hk:P.underlying tx=some (.slice e')) (hi:(P.info? e).map (λi=>(i.size,i.bytes))=some (sz,bytes)) (hz:(cX P e).map List.length=some sz) (hpos:sz≠0) (hb0:bytes≠0)
  (hxv:(SOpd.of x).eval G env=xv) (hW:WS σ e sz xv rows g) (hys:srcX sz ((SOpd.of y).eval G env) λl=>l=ys) (hbytes:(rows.length+ys.length)*bytes<=140737488355328)
  (hk0:rows=[]->ys=[]->K xv σ)
  (hk1:∀b cap pad,b∉(σ.erase g).keys->(rows++ys).length<=cap->cap<=maxLen->(∀r∈rows++ys,r.length=sz)->((rows++ys).flatten++pad).length=cap*sz->
   K (.sc (.slice (some ⟨b,0,none⟩) (rows++ys).length cap)) ((b,.cells e ((rows++ys).flatten++pad))::σ.erase g)):RAW G P (.call (.mk (.builtin .append) #[x,y] #[t,tx])) env σ K ⟨⟩:=by
 obtain⟨i,hi',he⟩:=Option.map_eq_some_iff.1 hi
 obtain⟨z,hz',hzl⟩:=Option.map_eq_some_iff.1 hz
 simp only[Prod.mk.injEq]at he
 obtain⟨rfl,rfl⟩:=he
 exact oe (ty:=0) hu hk hi' hz' hzl hpos hb0 hxv hW hys hbytes hk0 hk1
end
end Go.Av
namespace Go.Av
open Go Go.RowKit Go.Proofs List
set_option linter.unusedSimpArgs false
set_option linter.unusedVariables false
theorem iX (l:List Wd):∀r∈l.map Wd.cs,r.length=4:=by
 intro r hr
 obtain⟨w,_,rfl⟩:=mem_map.1 hr
 rfl
theorem jr (l:List U):∀r∈l.map U.cs,r.length=8:=by
 intro r hr
 obtain⟨w,_,rfl⟩:=mem_map.1 hr
 exact U.cs_len w
theorem eJ {e:TypeId} {sz:Nat} {v:Value} (h:la v):bR e sz [] (.sc v) []:=by
 rcases h with rfl|⟨a,rfl⟩
 ·exact⟨none,0,rfl,.inl ⟨rfl,rfl,rfl⟩⟩
 ·exact⟨some a,0,rfl,.inl ⟨rfl,rfl,rfl⟩⟩
theorem RET.le {x y:AV} {R:AV->Store->Prop} {σ σ':Store} (hl:AVle x y) (hs:SubN σ' σ) (h:R y σ'):RET x σ R:=⟨y,σ',hl,hs,h⟩
theorem RET.mk' {x:AV} {R:AV->Store->Prop} {σ σ':Store} (hs:SubN σ' σ) (h:R x σ'):RET x σ R:=⟨x,σ',AVle.rfl' _,hs,h⟩
section
variable (G:Glob)
theorem f82 (l:List Wd) (hl:l.length<1000000):aj G Tryz.prog 82 [.lst 4 (l.map Wd.cs)] [] (λr σ=>bR 64 4 (l.map Wd.cs) r σ):=by
 obtain⟨rows,hrows⟩:∃rows,l.map Wd.cs=rows:=⟨_,rfl⟩
 have hlen:rows.length=l.length:=by rw[←hrows,length_map]
 have hsz:∀r∈rows,r.length=4:=by rw[←hrows];exact iX l
 rw[hrows]
 refine aj.w c82 ?_
 unfold s82 r82
 simp -dsimp -implicitDefEqProofs only[EV1,EV2,EV3,EV4,EV5,Option.map_some,decide_true,decide_false,seval,↓reduceIte,reduceCtorEq,eq_self]
 intro bb hbb
 refine ae (λh=>?_) (λh=>?_)
 ·simp -dsimp -implicitDefEqProofs only[EV1,EV2,EV3,EV4,EV5,Option.map_some,decide_true,decide_false,seval,↓reduceIte,reduceCtorEq,eq_self]
  have h0:rows=[]:=by
   rcases Classical.em (rows=[])with h1|h1
   ·exact h1
   ·rw[hbb h1]at h;cases h
  subst h0
  exact RET.le (y:=.sc (.slice none 0 0)) (Or.inl (Or.inr rfl)) (SubN.refl _) (eJ (.inl rfl))
 ·simp -dsimp -implicitDefEqProofs only[EV1,EV2,EV3,EV4,EV5,Option.map_some,decide_true,decide_false,seval,↓reduceIte,reduceCtorEq,eq_self]
  refine gC (e:=64) (n:=4) (by kernel_rfl) (by kernel_rfl) (λv hv=>?_)
  simp -dsimp -implicitDefEqProofs only[EV1,EV2,EV3,EV4,EV5,Option.map_some,decide_true,decide_false,seval,↓reduceIte,reduceCtorEq,eq_self]
  refine cg (e:=64) (e':=64) (sz:=4) (bytes:=40) (rows:=[]) (ys:=rows) (g:=none) (xv:=.sc v) (by kernel_rfl) (by kernel_rfl) (by kernel_rfl) (by kernel_rfl) (by decide) (by decide) rfl (.inl ⟨rfl,rfl,.inr ⟨v,rfl,hv⟩⟩) ?_ ?_ ?_ ?_
  ·exact⟨rfl,rfl⟩
  ·simp;omega
  ·intro _ h0
   simp -dsimp -implicitDefEqProofs only[EV1,EV2,EV3,EV4,EV5,Option.map_some,decide_true,decide_false,seval,↓reduceIte,reduceCtorEq,eq_self]
   subst h0
   exact RET.mk' (SubN.refl _) (eJ hv)
  ·intro b cap pad hb hle hcm hr2 hln
   simp -dsimp -implicitDefEqProofs only[EV1,EV2,EV3,EV4,EV5,Option.map_some,decide_true,decide_false,seval,↓reduceIte,reduceCtorEq,eq_self]
   simp only[nil_append]at*
   exact RET.mk' (SubN.refl _) ⟨_,_,rfl,.inr ⟨b,pad,rfl,rfl,hle,hcm,hr2,hln⟩⟩
end
theorem cF {σ τ:Store} (h:(σ++τ:Store).keys.Nodup) {b:Nat} (hb:b∈τ.keys):b∉σ.keys:=by
 rw[aA]at h
 exact λhm=>(nodup_append.1 h).2.2 b hm b hb rfl
theorem j8 {σ τ:Store} (h:(σ++τ:Store).keys.Nodup):τ.keys.Nodup:=by
 rw[aA]at h
 exact(nodup_append.1 h).2.1
def kF (u:U) (r:AV) (σ:Store):Prop:=
 ∃bh ch σh bw cw σw bk ck σk,r= .agg [.int .i64 u.id.act,.int .i64 u.id.item,.int .i64 u.id.n,.int .i64 u.kind,.str u.label,.sc (.slice bh u.head.length ch),.sc (.slice bw u.words.length cw),.sc (.slice bk u.kids.length ck)]/\
  σ=σk++(σw++σh)/\gk 64 4 (u.head.map Wd.cs) bh ch σh/\gk 64 4 (u.words.map Wd.cs) bw cw σw/\gk 27 8 (u.kids.map U.cs) bk ck σk
theorem kF.freeze {G:Glob} {P:Program} {k:FuncId} {args:List AV} {u:U} (h:aj G P k args [] (kF u)):Pure G P k args (.agg u.cs):=by
 refine aj.freeze (aj.mono h ?_)
 rintro r σ' ⟨bh,ch,σh,bw,cw,σw,bk,ck,σk,rfl,rfl,h1,h2,h3⟩
 refine⟨_,rfl,?_⟩
 rw[U.cs_eq]
 refine⟨.inl rfl,.inl rfl,.inl rfl,.inl rfl,.inl rfl,.inr ⟨_,_,_,σh,⟨bh,ch,by simp,h1⟩,?_,rfl⟩,.inr ⟨_,_,_,σw,⟨bw,cw,by simp,h2⟩,?_,rfl⟩,.inr ⟨_,_,_,σk,⟨bk,ck,by simp,h3⟩,?_,rfl⟩,trivial⟩<;>
 ·intro p hp
  simp only[mem_append]
  simp[hp]
abbrev KS:=Option (Nat×Nat×List AV)
def kAV (c:KS) (n:Nat):AV:=match c with
 |none=>.nil
 |some (b,cap,_)=>.sc (.slice (some ⟨b,0,none⟩) n cap)
def kSt (c:KS) (rows:List (List AV)):Store:=match c with
 |none=>[]
 |some (b,_,pad)=>[(b,.cells 27 (rows.flatten++pad))]
def kOk (c:KS) (rows:List (List AV)):Prop:=match c with
 |none=>rows=[]
 |some (b,cap,pad)=>rows.length<=cap/\cap<=maxLen/\(∀r∈rows,r.length=8)/\(rows.flatten++pad).length=cap*8
theorem kWS {c:KS} {rows:List (List AV)} (h:kOk c rows):WS (kSt c rows) 27 8 (kAV c rows.length) rows (c.map (·.1)):=by
 cases c with
 |none=>exact .inl ⟨h,rfl,.inl rfl⟩
 |some p=>
  obtain⟨b,cap,pad⟩:=p
  obtain⟨h1,h2,h3,h4⟩:=h
  exact .inr ⟨b,cap,pad,rfl,rfl,by simp[kSt,Store.get],h3,h4,h1,h2⟩
theorem kErase (c:KS) (rows:List (List AV)):(kSt c rows).erase (c.map (·.1))=[]:=by
 cases c with
 |none=>rfl
 |some p=>obtain⟨b,cap,pad⟩:=p;simp[kSt,Store.erase]
theorem kS {c:KS} {rows:List (List AV)} (h:kOk c rows):∃base cap,aP (kAV c rows.length) (.sc (.slice base rows.length cap))/\gk 27 8 rows base cap (kSt c rows):=by
 cases c with
 |none=>
  have h:rows=[]:=h
  subst h
  exact⟨none,0,.inr rfl,.inl ⟨rfl,rfl,rfl⟩⟩
 |some p=>
  obtain⟨b,cap,pad⟩:=p
  obtain⟨h1,h2,h3,h4⟩:=h
  exact⟨some ⟨b,0,none⟩,cap,.inl rfl,.inr ⟨b,pad,rfl,rfl,h1,h2,h3,h4⟩⟩
section
variable (G:Glob)
set_option maxHeartbeats 2000000 in
theorem f51:∀(u:U),u.Short->aj G Tryz.prog 51 [.agg u.cs] [] (kF u):=by
 refine U.ind λu ih hs=>?_
 have h0:=hs.2 u u.flat_self
 have hkl:=hs.1.kids
 have hCh:=f82 G u.head h0.2.1
 have hCw:=f82 G u.words h0.2.2.1
 rw[U.cs_eq u]
 refine aj.w c51 ?_
 unfold s51 r51
 (try simp only[EVz,seval,↓reduceIte,EV6,EV7])
 intro b1 hb1 b2 hb2
 have hb12:¬b1=b2:=by simp only[EVK]at hb2;exact λe=>hb2 e.symm
 have hb21:¬b2=b1:=λe=>hb12 e.symm
 (repeat' (first|simp only[EVz,seval,↓reduceIte,EV6,EV7,hb12,hb21]|(with_reducible refine ak ?_ ?_)|fail))
 all_goals(
  refine az [] _ hCh.v (aB.rfl' _) (SubN.refl _) ?_
  rintro _ σh ⟨bh,ch,rfl,hOh⟩ hnd1
  have h11:b1∉σh.keys:=cF hnd1 (by simp[Store.keys])
  have h12:b2∉σh.keys:=cF hnd1 (by simp[Store.keys])
  (try simp only[EVz,seval,↓reduceIte,EV6,EV7,ao h11,ao h12,ap h11,ap h12,hb12,hb21])
  refine az [] _ hCw.v (aB.rfl' _) (SubN.refl _) ?_
  rintro _ σw ⟨bw,cw,rfl,hOw⟩ hnd2
  have h21:b1∉σw.keys:=cF hnd2 (by simp[Store.keys])
  have h22:b2∉σw.keys:=cF hnd2 (by simp[Store.keys])
  (try simp only[EVz,seval,↓reduceIte,EV6,EV7,ao h11,ao h12,ap h11,ap h12,ao h21,ao h22,ap h21,ap h22,hb12,hb21,append_eq]))
 all_goals(
  refine am ?_
  (try simp only[EVz,seval,↓reduceIte,EV6,EV7,ao h11,ao h12,ap h11,ap h12,ao h21,ao h22,ap h21,ap h22,hb12,hb21,append_eq])
  have hnd3:Store.keys (σw++(σh++[(b2,AObj.cells 27 [.int .i64 0,.int .i64 0,.int .i64 0,.int .i64 0,.str [],.nil,.nil,.nil]),(b1,AObj.cells 27 [.int .i64 u.id.act,.int .i64 u.id.item,.int .i64 u.id.n,.int .i64 u.kind,.str u.label,.sc (.slice bh u.head.length ch),.sc (.slice bw u.words.length cw),.lst 8 (u.kids.map U.cs)])]))|>.Nodup:=by
   simp only[append_eq]at hnd2
   simpa[Store.keys]using hnd2
  refine Zq (ι:=KS) u.kids (λi r c=>kOk c ((u.kids.take i).map U.cs)/\(Store.keys (kSt c ((u.kids.take i).map U.cs)++(σw++(σh++[(b2,AObj.cells 27 [.int .i64 0,.int .i64 0,.int .i64 0,.int .i64 0,.str [],.nil,.nil,.nil]),(b1,AObj.cells 27 [.int .i64 u.id.act,.int .i64 u.id.item,.int .i64 u.id.n,.int .i64 u.kind,.str u.label,.sc (.slice bh u.head.length ch),.sc (.slice bw u.words.length cw),.lst 8 (u.kids.map U.cs)])])))).Nodup)
   (λi c=>[(1,.sc (.pointer (some ⟨b1,0,none⟩))),(2,.sc (.pointer (some ⟨b2,0,none⟩))),(3,kAV c i),(15,.lst 8 (u.kids.map U.cs)),(16,.int .i64 u.kids.length),(17,.int .i64 i)])
   (λi c=>kSt c ((u.kids.take i).map U.cs)++(σw++(σh++[(b2,AObj.cells 27 [.int .i64 0,.int .i64 0,.int .i64 0,.int .i64 0,.str [],.nil,.nil,.nil]),(b1,AObj.cells 27 [.int .i64 u.id.act,.int .i64 u.id.item,.int .i64 u.id.n,.int .i64 u.kind,.str u.label,.sc (.slice bh u.head.length ch),.sc (.slice bw u.words.length cw),.lst 8 (u.kids.map U.cs)])]))) none ⟨rfl,hnd3⟩ (Weak.rfl' _ _) (by omega) (λi x r c hok hx hw=>?_) (λc hok hn=>?_)
  ·have hil:((u.kids.take i).map U.cs).length=i:=by rw[length_map,length_take];have:=hx.lt;omega
   have hws:=kWS hok.1
   rw[hil]at hws
   (try simp only[EVz,seval,↓reduceIte,EV6,EV7,hx.yes,hx.le0,hx.lt',hx.row,hw,hx.get,ao h11,ao h12,ap h11,ap h12,ao h21,ao h22,ap h21,ap h22,hb12,hb21,append_eq])
   intro b5 hb5
   (try simp only[EVz,seval,↓reduceIte,EV6,EV7,hx.yes,hx.le0,hx.lt',hx.row,hw,hx.get,ao h11,ao h12,ap h11,ap h12,ao h21,ao h22,ap h21,ap h22,hb12,hb21,append_eq])
   refine ab (kF.freeze (ih x hx.mem (hs.kid hx.mem))) ?_
   (try simp only[EVz,seval,↓reduceIte,EV6,EV7,hx.yes,hx.le0,hx.lt',hx.row,hw,hx.get,ao h11,ao h12,ap h11,ap h12,ao h21,ao h22,ap h21,ap h22,hb12,hb21,append_eq])
   intro b6 hb6
   refine⟨[x.cs],rfl,by simp[U.cs_len],by simp,?_⟩
   (try simp only[EVz,seval,↓reduceIte,EV6,EV7,ao h11,ao h12,ap h11,ap h12,ao h21,ao h22,ap h21,ap h22,hb12,hb21,append_eq])
   refine pE (kSt c ((u.kids.take i).map U.cs)) (σw++(σh++[(b2,AObj.cells 27 [.int .i64 0,.int .i64 0,.int .i64 0,.int .i64 0,.str [],.nil,.nil,.nil]),(b1,AObj.cells 27 [.int .i64 u.id.act,.int .i64 u.id.item,.int .i64 u.id.n,.int .i64 u.kind,.str u.label,.sc (.slice bh u.head.length ch),.sc (.slice bw u.words.length cw),.lst 8 (u.kids.map U.cs)])])) (((SubN.refl _).tail _).tail _) ?_
   refine cg (e:=27) (e':=27) (sz:=8) (bytes:=120) (rows:=(u.kids.take i).map U.cs) (ys:=[x.cs]) (g:=c.map (·.1)) (xv:=kAV c i) (by kernel_rfl) (by kernel_rfl) (by kernel_rfl) (by kernel_rfl) (by decide) (by decide) rfl hws ⟨rfl,rfl⟩ (by rw[hil];simp only[length_cons,length_nil];have:=hx.lt;omega) (λ_ h=>by cases h) (λb cap pad hb hle hcm hr2 hln hnd=>?_)
   rw[kErase]at hnd ⊢
   have hlen1:((u.kids.take i).map U.cs++[x.cs]).length=i+1:=by rw[length_append,hil];rfl
   have htk:(u.kids.take (i+1)).map U.cs=(u.kids.take i).map U.cs++[x.cs]:=by rw[hx.take];simp
   (try simp only[EVz,seval,↓reduceIte,EV6,EV7,hw,hlen1,ao h11,ao h12,ap h11,ap h12,ao h21,ao h22,ap h21,ap h22,hb12,hb21,append_eq])
   refine af hx (some (b,cap,pad)) ⟨?_,?_⟩ ?_
   ·rw[htk];exact⟨hle,hcm,hr2,hln⟩
   ·rw[htk];exact hnd
   ·rw[htk];exact Weak.rfl' _ _
  ·rw[take_length]at hok ⊢
   obtain⟨bk,ck,hle,hop⟩:=kS hok.1
   rw[length_map]at hle
   have hnk:=hok.2
   have hk1:b1∉(kSt c (u.kids.map U.cs)).keys:=cF hnk (by simp[Store.keys])
   have hk2:b2∉(kSt c (u.kids.map U.cs)).keys:=cF hnk (by simp[Store.keys])
   have fin:∀v:AV,aP v (.sc (.slice bk u.kids.length ck))->RET (.agg [.int .i64 u.id.act,.int .i64 u.id.item,.int .i64 u.id.n,.int .i64 u.kind,.str u.label,.sc (.slice bh u.head.length ch),.sc (.slice bw u.words.length cw),v])
     (kSt c (u.kids.map U.cs)++(σw++(σh++[(b2,AObj.cells 27 [.int .i64 u.id.act,.int .i64 u.id.item,.int .i64 u.id.n,.int .i64 u.kind,.str u.label,.sc (.slice bh u.head.length ch),.sc (.slice bw u.words.length cw),v]),(b1,AObj.cells 27 [.int .i64 u.id.act,.int .i64 u.id.item,.int .i64 u.id.n,.int .i64 u.kind,.str u.label,.sc (.slice bh u.head.length ch),.sc (.slice bw u.words.length cw),v])]))) (kF u):=λv hv=>
    RET.le (y:=.agg [.int .i64 u.id.act,.int .i64 u.id.item,.int .i64 u.id.n,.int .i64 u.kind,.str u.label,.sc (.slice bh u.head.length ch),.sc (.slice bw u.words.length cw),.sc (.slice bk u.kids.length ck)])
     (.inr ⟨.inl rfl,.inl rfl,.inl rfl,.inl rfl,.inl rfl,.inl rfl,.inl rfl,hv,trivial⟩) (SubN.app (SubN.app SubN.appL)) ⟨bh,ch,σh,bw,cw,σw,bk,ck,_,rfl,rfl,by simpa using hOh,by simpa using hOw,by simpa using hop⟩
   rcases c with _|⟨b,cap,pad⟩
   ·simp only[kAV]at*
    (try simp only[EVz,seval,↓reduceIte,EV6,EV7,hn,ao hk1,ao hk2,ap hk1,ap hk2,ao h11,ao h12,ap h11,ap h12,ao h21,ao h22,ap h21,ap h22,hb12,hb21,append_eq])
    exact fin _ hle
   ·simp only[kAV]at*
    (try simp only[EVz,seval,↓reduceIte,EV6,EV7,hn,ao hk1,ao hk2,ap hk1,ap hk2,ao h11,ao h12,ap h11,ap h12,ao h21,ao h22,ap h21,ap h22,hb12,hb21,append_eq])
    exact fin _ hle)
end
end Go.Av
