/-
  ENACT, 12: a book stays one behind each item.
-/
import Derived.Test.YtnoakpkjccigoaaGreatDoorVXE8toXE11
import Derived.Test.YtnoakpkjccigoaaGreatDoorVXAv24toXAv26
import Derived.Test.YtnoakpkjccigoaaGreatDoorVXC1toXC2
import Derived.Test.YtnoakpkjccigoaaGreatDoorVXC3toXL6
import Derived.Test.YtnoakpkjccigoaaGreatDoorVXL14toXFrU
namespace Go.Av
open Go Go.RowKit Go.Proofs List
set_option linter.unusedSimpArgs false
set_option linter.unusedVariables false
theorem gj {x:Itm} (h:x.may=true):x.own (Itm.mayOne x.by_)=true:=by
 rw[Itm.may_eq,Bool.and_eq_true]at h
 exact h.2
theorem fd {x:Itm} (h:x.may=true) (D:x.kind=0\/x.kind=6):0<=x.wh/\x.wh<=3:=by
 have:=gj h
 unfold Itm.own inR at this
 rcases D with D|D<;>simp[D]at this<;>omega
theorem mp {x:Itm} (h:x.may=true) (D:x.kind=2\/x.kind=3\/x.kind=4):dq x.new=true:=by
 have:=gj h
 unfold Itm.own cX at this
 rcases D with D|D|D<;>simp[D]at this<;>simp[this]
theorem pg {x:Itm} (h:x.may=true) (D:x.kind=5):br x.label=true:=by
 have:=gj h
 unfold Itm.own at this
 simpa[D]using this
theorem kD {x:Itm} (h:x.may=true) (E:x.kind=0):∀y∈x.unit.flat,nodeOk y=true:=by
 have:=gj h
 unfold Itm.own at this
 simp only[E,if_true,Bool.and_eq_true]at this
 have D:=this.2.1
 rw[gZ]at D
 unfold pN pq at D
 simp only[Bool.and_eq_true]at D
 exact all_eq_true.1 D.1.1
theorem iy {u:U} (E:u.ids.Nodup) {i q:Idd} (hi:i∈u.ids) {wh:Int} {k:Nat} (h:spot u i wh=some (q,k)):q∈u.ids:=by
 unfold spot at h
 split at h
 ·injection h with h;injection h with h1 h2;subst h1;exact hi
 ·split at h
  ·injection h with h;injection h with h1 h2;subst h1;exact hi
  ·obtain⟨⟨p,d,j⟩,e,D⟩:=Option.map_eq_some_iff.1 h
   injection D with e3 e4
   subst e3
   exact(et u E hi e).mem
theorem ins_good {u:U} (h:Good u) {i:Idd} (hi:i∈u.ids) {d:Dd} (T:d.it.may=true) (O:d.it.kind=0):Good (insP u i d).1/\Root u (insP u i d).1:=by
 unfold insP
 split
 ·exact⟨h,Root.refl u⟩
 ·rename_i q k e
  have V:=iy h.nd hi e
  obtain⟨s1,s2,s3,s4,s5⟩:=je d.it.unit d.act d.item (kD T O)
  obtain⟨x,Y⟩:∃x,cz d.it.unit d.act d.item=x:=⟨_,rfl⟩
  rw[Y]at s1 s2 s3 s4 s5 ⊢
  split
  ·exact⟨h,Root.refl u⟩
  ·rename_i X
   split
   ·exact⟨h,Root.refl u⟩
   ·rename_i I
    split
    ·exact⟨h,Root.refl u⟩
    ·rename_i E
     simp only[not_or,Int.not_le,Int.not_lt,Nat.not_le]at I
     obtain⟨f1,f2,f3⟩:=I
     have D:∀y∈x.ids,y∉u.ids:=by
      intro y Z F
      exact E (any_eq_true.2 ⟨y,Z,decide_eq_true F⟩)
     refine⟨nP h V s5 ?_ ?_ k X f1 ?_ ?_,gC (g:=λl=>insAt l k x)⟩
     ·rw[nodup_append]
      refine⟨h.nd,by rw[s1];exact idRow_nd _ _ _ _,?_⟩
      intro a M b N J
      subst J
      exact D a N M
     ·rw[s1];exact pj _ _ _
     ·unfold U.dep at f2;omega
     ·unfold U.cnt at f3;omega
theorem mov_good {u:U} (h:Good u) {i t:Idd} (hi:i∈u.ids) (M:u.id≠i) (ht:t∈u.ids) {d:Dd} (h0:0<=d.it.wh) (h3:d.it.wh<=3):Good (movP u i t d).1/\Root u (movP u i t d).1:=by
 obtain⟨g1,g2,g3,A,B,hA,I,e2⟩:=cN h hi M
 obtain⟨own,dO,j,w1,w2,E⟩:=bt h.nd hi M
 obtain⟨a,x,b,s,hx,hj,hl⟩:=E.split
 have al:fnd i u=x:=aB hl
 have bb:=aP u h.nd hi
 unfold movP
 split
 ·exact⟨h,Root.refl u⟩
 ·rename_i q k e
  split
  ·exact⟨h,Root.refl u⟩
  ·rename_i ba
   split
   ·exact⟨h,Root.refl u⟩
   ·rename_i hf
    rw[not_or]at hf
    obtain⟨f1,f2⟩:=hf
    have hq:q∈(without i u).ids:=by
     have T:q∈u.ids/\q∉(fnd i u).ids:=by
      unfold dY at e
      rw[w1]at e
      simp only at e
      split at e
      ·cases e
      ·rename_i hc
       rw[not_or]at hc
       split at e
       ·injection e with e;injection e with e3 e4
        subst e3
        refine⟨E.mem,?_⟩
        rw[al]
        have:=(U.nd_kids E.nd).2
        rw[s.eq,U.idss_app,U.idss_cons]at this
        exact λD=>this (mem_append.2 (.inr (mem_append.2 (.inl D))))
       ·rename_i aw
        obtain⟨⟨q',k'⟩,X,e6⟩:=Option.map_eq_some_iff.1 e
        injection e6 with e7 e8
        subst e7
        have hr:¬(besides d.it.wh=true/\t=u.id):=by
         rintro⟨r1,r2⟩
         have Y:d.it.wh=2\/d.it.wh=3:=by simpa[besides]using r1
         unfold spot at X
         rw[cB r2.symm]at X
         rcases Y with Y|Y<;>simp[Y]at X
        obtain⟨P,dp,k2,hg⟩:=jP h.nd ht h0 h3 hr
        have:=hg.spot
        rw[X]at this
        injection this with this
        injection this with e9 e10
        simp only at e9 ⊢
        rw[e9]
        refine⟨hg.mem,hg.out i hi λD=>?_⟩
        exact hc.1 ((gl u h.nd ht hi).2 ⟨aw,D⟩)
     rw[e2]
     have:=T.1
     rw[I]at this
     rcases mem_append.1 this with D|D
     ·exact mem_append.2 (.inl D)
     ·rcases mem_append.1 D with D|D
      ·exact absurd D T.2
      ·exact mem_append.2 (.inr D)
    have F:((without i u).ids++(fnd i u).ids).Perm u.ids:=by
     rw[e2,I];exact(nh A _ B).symm
    refine⟨nP g1 hq (λz Z=>h.node z (dD bb z Z)) (F.nodup_iff.2 h.nd) ?_ k ba ?_ ?_ ?_,g2.trans (gC (g:=λl=>insAt l k (fnd i u)))⟩
    ·intro Z
     by_cases J:u.kind=0
     ·have hr:=h.root.1 J
      have hn:=h.nd
      rw[I]at hn
      obtain⟨A',ac⟩:=ids_root I hA
      subst ac
      rw[cons_append,nodup_cons]at hn
      exact hn.1 (by rw[hr];exact mem_append.2 (.inr (mem_append.2 (.inl Z))))
     ·exact h.zero J (mK h.nd hi Z)
    ·by_cases O:q=own.id
     ·
      subst O
      have hW:without i u=U.wth own.id (λy=>{y with kids:=delAt y.kids j}) u:=by unfold without;rw[w1]
      have N:own∈u.flat:=by
       have:=aP u h.nd E.mem
       rw[E.fnd]at this;exact this
      have an:own.id∉x.ids:=by
       have:=(U.nd_kids E.nd).2
       rw[s.eq,U.idss_app,U.idss_cons]at this
       exact λD=>this (mem_append.2 (.inr (mem_append.2 (.inl D))))
      subst hj
      have V:=way_out (t:=own.id) h.nd E s.eq an
      have ah:fnd own.id (without i u)={own with kids:=a++b}:=by
       rw[hW]
       refine aB ?_
       rw[V,getLast?_map,E.last,Option.map_some,bA rfl,s.eq,bO]
      rw[ah]
      have:=cT (h.node own N)
      rw[s.eq]at this
      simp at this ⊢
      omega
     ·rw[w2]at f1
      apply Classical.byContradiction
      intro hc
      exact f1 ⟨O,by omega⟩
    ·unfold U.dep at f2;omega
    ·have:=congrArg List.length I
     have e3:=congrArg List.length e2
     rw[U.ids_len,length_append,length_append,U.ids_len]at this
     rw[U.ids_len,length_append]at e3
     have:=h.cnt
     omega
theorem rd {u:U} (h:Good u) (d:Dd):Good (doP u d).1/\Root u (doP u d).1:=by
 have M:Good u/\Root u u:=⟨h,Root.refl u⟩
 unfold doP
 split
 ·exact M
 rename_i c1
 have O:d.it.may=true:=by cases hh:d.it.may<;>simp_all
 split
 ·exact M
 rename_i c2
 have hi:=bZ (u:=u) (p:=d.it.at_) (by simpa using c2)
 obtain⟨i,Y⟩:∃i,(one u d.it.at_).1=i:=⟨_,rfl⟩
 rw[Y]at hi ⊢
 split
 ·rename_i k0
  exact ins_good h hi O k0
 rename_i k0
 split
 ·split<;>exact M
 rename_i Z
 have D:u.id≠i:=λe=>Z e.symm
 have V:=h.kind hi D
 have I:=aP u h.nd hi
 have F:=h.node _ I
 split
 ·have:=cN h hi D
  exact⟨this.1,this.2.1⟩
 split
 ·rename_i k2
  split
  ·exact M
  ·rename_i he
   have N:=editE_ok (a:=d.act) (b:=d.item) (fp F V).2.2 (mp O (by omega)) (by simpa using he)
   refine io h hi D (λ_=>rfl) (λ_=>rfl) (gE (f:=λy=>{y with words:=(bJ (fnd i u).words d.it d.act d.item).1}) (λ_=>rfl) u h.nd hi h.node λz J=>?_)
   rcases kx (y:=fnd i u) (z:={fnd i u with words:=(bJ (fnd i u).words d.it d.act d.item).1}) rfl z J with rfl|J
   ·exact oy F V N
   ·exact h.node z (dD I z J)
 split
 ·rename_i k4
  have N:aU (aX d.act d.item d.it.new 0)=true:=by
   have:=dB (mp O (.inr (.inr k4)))
   exact iM (iS this.1) (by rw[cH];omega)
  refine io h hi D (λ_=>rfl) (λ_=>rfl) (gE (f:=λy=>{y with head:=aX d.act d.item d.it.new 0}) (λ_=>rfl) u h.nd hi h.node λz J=>?_)
  rcases kx (y:=fnd i u) (z:={fnd i u with head:=aX d.act d.item d.it.new 0}) rfl z J with rfl|J
  ·exact node_head F V N
  ·exact h.node z (dD I z J)
 split
 ·rename_i k5
  split
  ·exact M
  ·rename_i T
   refine io h hi D (λ_=>rfl) (λ_=>rfl) (nT u h.nd hi D h.node (pg O k5) (λp dd j e=>?_) V)
   have hp:=et u h.nd hi e
   obtain⟨a,k,b,s,aw,hj,hl⟩:=hp.split
   have al:(parR i u).1=p:=by unfold parR;rw[par_way u h.nd hi,e];rfl
   rw[al]at T
   have ah:p∈u.flat:=by
    have:=aP u h.nd hp.mem
    rw[hp.fnd]at this;exact this
   have E:=df (h.node p ah) k (by rw[s.eq];simp)
   have X:fnd i u=k:=aB hl
   rw[X]at T ⊢
   cases an:taken p.kids k.kind d.it.label with
   |false=>rfl
   |true=>exact absurd (by unfold dR;simp only;rw[E,an];simp) T
 split
 ·exact M
 rename_i c7
 have T:=bZ (u:=u) (p:=d.it.to_) (by simpa using c7)
 have ac:d.it.kind=6:=by
  have:chg d.it.kind=true:=by cases hh:chg d.it.kind<;>simp_all
  simp only[chg,Bool.and_eq_true,decide_eq_true_eq]at this
  omega
 have N:=fd O (.inr ac)
 exact mov_good h hi D T N.1 N.2
theorem nO {s:List UInt8} (h:br s=true):s.length<=7:=by
 unfold br at h
 simp only[Bool.and_eq_true,decide_eq_true_eq]at h
 omega
theorem lD {l:List Wd} (h:aU l=true):l.length<=256/\∀w∈l,w.text.length<=24:=by
 unfold aU at h
 simp only[Bool.and_eq_true,decide_eq_true_eq]at h
 refine⟨by omega,λw D=>?_⟩
 have:=all_eq_true.1 h.2 w D
 unfold wdOk bf at this
 simp only[Bool.and_eq_true,decide_eq_true_eq]at this
 omega
structure Slim (y:U):Prop where
 label:y.label.length<=7
 head:y.head.length<=256/\∀w∈y.head,w.text.length<=24
 words:y.words.length<=256/\∀w∈y.words,w.text.length<=24
 kids:y.kids.length<=64
theorem dN {y:U} (h:nodeOk y=true):Slim y:=by
 have J:=cT h
 by_cases E:y.kind=0
 ·unfold nodeOk own1 at h
  rw[if_pos E]at h
  simp only[Bool.and_eq_true,decide_eq_true_eq]at h
  obtain⟨⟨D,F,I⟩,_⟩:=h
  have M:y.head=[]:=eq_nil_of_length_eq_zero (by omega)
  have N:y.words=[]:=eq_nil_of_length_eq_zero (by omega)
  exact⟨by rw[D];simp,by rw[M];simp,by rw[N];simp,J⟩
 ·obtain⟨D,F,I⟩:=fp h E
  exact⟨nO D,lD F,lD I,J⟩
theorem slim_fit:∀u:U,(∀y∈u.flat,Slim y)->u.fit:=by
 refine U.ind λu ih h=>?_
 have D:=h u u.flat_self
 refine(U.fit_eq u).2 ⟨by have:=D.label;omega,⟨by have:=D.head.1;omega,λx E=>by have:=D.head.2 x E;omega⟩,⟨by have:=D.words.1;omega,λx E=>by have:=D.words.2 x E;omega⟩,by have:=D.kids;omega,λk F=>?_⟩
 exact ih k F λy I=>h y (U.flat_kid F I)
theorem gc {u:U} (h:∀y∈u.flat,nodeOk y=true) (E:u.flat.length<1000000):u.Short:=by
 refine⟨⟨slim_fit u λy I=>dN (h y I),E⟩,λx F=>?_⟩
 have s:=dN (h x F)
 exact⟨by have:=s.label;omega,by have:=s.head.1;omega,by have:=s.words.1;omega,λw D=>by have:=s.head.2 w D;omega,λw D=>by have:=s.words.2 w D;omega⟩
theorem Good.short {u:U} (h:Good u):u.Short:=gc h.node (by have:=h.cnt;omega)
end Go.Av
namespace Go.Av
open Go Go.RowKit List
set_option linter.unusedSimpArgs false
set_option linter.unusedVariables false
section
variable {G:Glob} {P:Program} {σ ρ:Store} {w:World} {env:Env} {K:AV->Store->Prop}
theorem bY {t Y e e':TypeId} {sz bytes:Nat} {x y:Operand} {rows ys:List (List AV)} {g:Option Nat} {xv:AV}
  (hu:P.underlying t=some (.slice e)) (hk:P.underlying Y=some (.slice e')) (hi:(P.info? e).map (λi=>(i.size,i.bytes))=some (sz,bytes)) (hz:(cK P e).map List.length=some sz) (E:sz≠0) (F:bytes≠0)
  (N:(SOpd.of x).eval G env=xv) (Z:WS σ e sz xv rows g) (O:srcX sz ((SOpd.of y).eval G env) λl=>l=ys) (D:(rows.length+ys.length)*bytes<=140737488355328)
  (J:rows=[]->ys=[]->K xv σ)
  (M:∀b cap pad,b∉(σ.erase g).keys->(rows++ys).length<=cap->cap<=maxLen->(∀r∈rows++ys,r.length=sz)->((rows++ys).flatten++pad).length=cap*sz->
   K (.sc (.slice (some ⟨b,0,none⟩) (rows++ys).length cap)) ((b,.cells e ((rows++ys).flatten++pad))::σ.erase g)):RAW G P (.call (.mk (.builtin .append) #[x,y] #[t,Y])) env σ K ⟨⟩:=by
 obtain⟨i,I,X⟩:=Option.map_eq_some_iff.1 hi
 obtain⟨z,T,V⟩:=Option.map_eq_some_iff.1 hz
 simp only[Prod.mk.injEq]at X
 obtain⟨rfl,rfl⟩:=X
 exact nH (ty:=0) hu hk I T V E F N Z O D J M
end
end Go.Av
namespace Go.Av
open Go Go.RowKit Go.Proofs List
set_option linter.unusedSimpArgs false
set_option linter.unusedVariables false
theorem iQ (l:List Wd):∀r∈l.map Wd.cs,r.length=4:=by
 intro r D
 obtain⟨w,_,rfl⟩:=mem_map.1 D
 rfl
theorem dZ (l:List U):∀r∈l.map U.cs,r.length=8:=by
 intro r D
 obtain⟨w,_,rfl⟩:=mem_map.1 D
 exact U.cs_len w
theorem ed {e:TypeId} {sz:Nat} {v:Value} (h:rF v):bD e sz [] (.sc v) []:=by
 rcases h with rfl|⟨a,rfl⟩
 ·exact⟨none,0,rfl,.inl ⟨rfl,rfl,rfl⟩⟩
 ·exact⟨some a,0,rfl,.inl ⟨rfl,rfl,rfl⟩⟩
theorem RET.le {x y:AV} {R:AV->Store->Prop} {σ σ':Store} (D:AVle x y) (E:SubN σ' σ) (h:R y σ'):RET x σ R:=⟨y,σ',D,E,h⟩
theorem RET.mk' {x:AV} {R:AV->Store->Prop} {σ σ':Store} (D:SubN σ' σ) (h:R x σ'):RET x σ R:=⟨x,σ',AVle.rfl' _,D,h⟩
section
variable (G:Glob)
theorem f86 (l:List Wd) (Z:l.length<1000000):ag G Tryz.prog 86 [.lst 4 (l.map Wd.cs)] [] (λr σ=>bD 33 4 (l.map Wd.cs) r σ):=by
 obtain⟨rows,D⟩:∃rows,l.map Wd.cs=rows:=⟨_,rfl⟩
 have O:rows.length=l.length:=by rw[←D,length_map]
 have V:∀r∈rows,r.length=4:=by rw[←D];exact iQ l
 rw[D]
 refine ag.w c86 ?_
 unfold s86 r86
 simp only[EV1,EV2,EV3,EV4,EV5,Option.map_some,decide_true,decide_false,seval,↓reduceIte,eq_self]
 intro X F
 refine ab (λh=>?_) (λh=>?_)
 ·simp only[EV1,EV2,EV3,EV4,EV5,Option.map_some,decide_true,decide_false,seval,↓reduceIte,eq_self]
  have E:rows=[]:=by
   rcases Classical.em (rows=[])with h1|h1
   ·exact h1
   ·rw[F h1]at h;cases h
  subst E
  exact RET.le (y:=.sc (.slice none 0 0)) (Or.inl (Or.inr rfl)) (SubN.refl _) (ed (.inl rfl))
 ·simp only[EV1,EV2,EV3,EV4,EV5,Option.map_some,decide_true,decide_false,seval,↓reduceIte,eq_self]
  refine fV (e:=33) (n:=4) (by kernel_rfl) (by kernel_rfl) (λv T=>?_)
  simp only[EV1,EV2,EV3,EV4,EV5,Option.map_some,decide_true,decide_false,seval,↓reduceIte,eq_self]
  refine bY (e:=33) (e':=33) (sz:=4) (bytes:=40) (rows:=[]) (ys:=rows) (g:=none) (xv:=.sc v) (by kernel_rfl) (by kernel_rfl) (by kernel_rfl) (by kernel_rfl) (by decide) (by decide) rfl (.inl ⟨rfl,rfl,.inr ⟨v,rfl,T⟩⟩) ?_ ?_ ?_ ?_
  ·exact⟨rfl,rfl⟩
  ·simp;omega
  ·intro _ E
   simp only[EV1,EV2,EV3,EV4,EV5,Option.map_some,decide_true,decide_false,seval,↓reduceIte,eq_self]
   subst E
   exact RET.mk' (SubN.refl _) (ed T)
  ·intro b cap pad Y J I N M
   simp only[EV1,EV2,EV3,EV4,EV5,Option.map_some,decide_true,decide_false,seval,↓reduceIte,eq_self]
   simp only[nil_append]at*
   exact RET.mk' (SubN.refl _) ⟨_,_,rfl,.inr ⟨b,pad,rfl,rfl,J,I,N,M⟩⟩
end
theorem cn {σ τ:Store} (h:(σ++τ:Store).keys.Nodup) {b:Nat} (D:b∈τ.keys):b∉σ.keys:=by
 rw[az]at h
 exact λE=>(nodup_append.1 h).2.2 b E b D rfl
theorem jM {σ τ:Store} (h:(σ++τ:Store).keys.Nodup):τ.keys.Nodup:=by
 rw[az]at h
 exact(nodup_append.1 h).2.1
def ko (u:U) (r:AV) (σ:Store):Prop:=
 ∃I N D M O F J ck E,r= .agg [.int .i64 u.id.act,.int .i64 u.id.item,.int .i64 u.id.n,.int .i64 u.kind,.str u.label,.sc (.slice I u.head.length N),.sc (.slice M u.words.length O),.sc (.slice J u.kids.length ck)]/\
  σ=E++(F++D)/\fI 33 4 (u.head.map Wd.cs) I N D/\fI 33 4 (u.words.map Wd.cs) M O F/\fI 27 8 (u.kids.map U.cs) J ck E
theorem ko.freeze {G:Glob} {P:Program} {k:FuncId} {args:List AV} {u:U} (h:ag G P k args [] (ko u)):Pure G P k args (.agg u.cs):=by
 refine ag.freeze (ag.mono h ?_)
 rintro r σ' ⟨I,N,D,M,O,F,J,ck,E,rfl,rfl,T,V,X⟩
 refine⟨_,rfl,?_⟩
 rw[U.cs_eq]
 refine⟨.inl rfl,.inl rfl,.inl rfl,.inl rfl,.inl rfl,.inr ⟨_,_,_,D,⟨I,N,by simp,T⟩,?_,rfl⟩,.inr ⟨_,_,_,F,⟨M,O,by simp,V⟩,?_,rfl⟩,.inr ⟨_,_,_,E,⟨J,ck,by simp,X⟩,?_,rfl⟩,trivial⟩<;>
 ·intro p Y
  simp only[mem_append]
  simp[Y]
abbrev KS:=Option (Nat×Nat×List AV)
def kAV (c:KS) (n:Nat):AV:=match c with
 |none=>.nil
 |some (b,cap,_)=>.sc (.slice (some ⟨b,0,none⟩) n cap)
def kSt (c:KS) (rows:List (List AV)):Store:=match c with
 |none=>[]
 |some (b,_,pad)=>[(b,.cells 27 (rows.flatten++pad))]
def kOk (c:KS) (rows:List (List AV)):Prop:=match c with
 |none=>rows=[]
 |some (b,cap,pad)=>rows.length<=cap/\cap<=maxLen/\(∀r∈rows,r.length=8)/\(rows.flatten++pad).length=cap*8
theorem kWS {c:KS} {rows:List (List AV)} (h:kOk c rows):WS (kSt c rows) 27 8 (kAV c rows.length) rows (c.map (·.1)):=by
 cases c with
 |none=>exact .inl ⟨h,rfl,.inl rfl⟩
 |some p=>
  obtain⟨b,cap,pad⟩:=p
  obtain⟨D,E,F,I⟩:=h
  exact .inr ⟨b,cap,pad,rfl,rfl,by simp[kSt,Store.get],F,I,D,E⟩
theorem kErase (c:KS) (rows:List (List AV)):(kSt c rows).erase (c.map (·.1))=[]:=by
 cases c with
 |none=>rfl
 |some p=>obtain⟨b,cap,pad⟩:=p;simp[kSt,Store.erase]
theorem kS {c:KS} {rows:List (List AV)} (h:kOk c rows):∃D cap,aR (kAV c rows.length) (.sc (.slice D rows.length cap))/\fI 27 8 rows D cap (kSt c rows):=by
 cases c with
 |none=>
  have h:rows=[]:=h
  subst h
  exact⟨none,0,.inr rfl,.inl ⟨rfl,rfl,rfl⟩⟩
 |some p=>
  obtain⟨b,cap,pad⟩:=p
  obtain⟨E,F,I,J⟩:=h
  exact⟨some ⟨b,0,none⟩,cap,.inl rfl,.inr ⟨b,pad,rfl,rfl,E,F,I,J⟩⟩
section
variable (G:Glob)
set_option maxHeartbeats 2000000 in
theorem f84:∀(u:U),u.Short->ag G Tryz.prog 84 [.agg u.cs] [] (ko u):=by
 refine U.ind λu ih hs=>?_
 have h0:=hs.2 u u.flat_self
 have d3:=hs.1.kids
 have bo:=f86 G u.head h0.2.1
 have bp:=f86 G u.words h0.2.2.1
 rw[U.cs_eq u]
 refine ag.w c84 ?_
 unfold s84 r84
 (try simp only[EVz,seval,↓reduceIte,EV6,EV7])
 intro X d0 Y be
 have F:¬X=Y:=by simp only[EVK]at be;exact λe=>be e.symm
 have M:¬Y=X:=λe=>F e.symm
 (repeat' (first|simp only[EVz,seval,↓reduceIte,EV6,EV7,F,M]|(with_reducible refine ae ?_ ?_)))
 all_goals(
  refine av [] _ bo.v (ax.rfl' _) (SubN.refl _) ?_
  rintro _ O ⟨bh,ch,rfl,bq⟩ an
  have D:X∉O.keys:=cn an (by simp[Store.keys])
  have E:Y∉O.keys:=cn an (by simp[Store.keys])
  (try simp only[EVz,seval,↓reduceIte,EV6,EV7,ak D,ak E,am D,am E,F,M])
  refine av [] _ bp.v (ax.rfl' _) (SubN.refl _) ?_
  rintro _ T ⟨bw,cw,rfl,bs⟩ V
  have I:X∉T.keys:=cn V (by simp[Store.keys])
  have J:Y∉T.keys:=cn V (by simp[Store.keys])
  (try simp only[EVz,seval,↓reduceIte,EV6,EV7,ak D,ak E,am D,am E,ak I,ak J,am I,am J,F,M,append_eq]))
 all_goals(
  refine af ?_
  (try simp only[EVz,seval,↓reduceIte,EV6,EV7,ak D,ak E,am D,am E,ak I,ak J,am I,am J,F,M,append_eq])
  have bl:Store.keys (T++(O++[(Y,AObj.cells 27 [.int .i64 0,.int .i64 0,.int .i64 0,.int .i64 0,.str [],.nil,.nil,.nil]),(X,AObj.cells 27 [.int .i64 u.id.act,.int .i64 u.id.item,.int .i64 u.id.n,.int .i64 u.kind,.str u.label,.sc (.slice bh u.head.length ch),.sc (.slice bw u.words.length cw),.lst 8 (u.kids.map U.cs)])]))|>.Nodup:=by
   simp only[append_eq]at V
   simpa[Store.keys]using V
  refine ay (ι:=KS) u.kids (λi r c=>kOk c ((u.kids.take i).map U.cs)/\(Store.keys (kSt c ((u.kids.take i).map U.cs)++(T++(O++[(Y,AObj.cells 27 [.int .i64 0,.int .i64 0,.int .i64 0,.int .i64 0,.str [],.nil,.nil,.nil]),(X,AObj.cells 27 [.int .i64 u.id.act,.int .i64 u.id.item,.int .i64 u.id.n,.int .i64 u.kind,.str u.label,.sc (.slice bh u.head.length ch),.sc (.slice bw u.words.length cw),.lst 8 (u.kids.map U.cs)])])))).Nodup)
   (λi c=>[(1,.sc (.pointer (some ⟨X,0,none⟩))),(2,.sc (.pointer (some ⟨Y,0,none⟩))),(3,kAV c i),(15,.lst 8 (u.kids.map U.cs)),(16,.int .i64 u.kids.length),(17,.int .i64 i)])
   (λi c=>kSt c ((u.kids.take i).map U.cs)++(T++(O++[(Y,AObj.cells 27 [.int .i64 0,.int .i64 0,.int .i64 0,.int .i64 0,.str [],.nil,.nil,.nil]),(X,AObj.cells 27 [.int .i64 u.id.act,.int .i64 u.id.item,.int .i64 u.id.n,.int .i64 u.kind,.str u.label,.sc (.slice bh u.head.length ch),.sc (.slice bw u.words.length cw),.lst 8 (u.kids.map U.cs)])]))) none ⟨rfl,bl⟩ (Weak.rfl' _ _) (by omega) (λi x r c ac N hw=>?_) (λc ac hn=>?_)
  ·have aw:((u.kids.take i).map U.cs).length=i:=by rw[length_map,length_take];have:=N.lt;omega
   have bn:=kWS ac.1
   rw[aw]at bn
   (try simp only[EVz,seval,↓reduceIte,EV6,EV7,N.yes,N.le0,N.lt',N.row,hw,N.get,ak D,ak E,am D,am E,ak I,ak J,am I,am J,F,M,append_eq])
   intro b5 d1
   (try simp only[EVz,seval,↓reduceIte,EV6,EV7,N.yes,N.le0,N.lt',N.row,hw,N.get,ak D,ak E,am D,am E,ak I,ak J,am I,am J,F,M,append_eq])
   refine aa (ko.freeze (ih x N.mem (hs.kid N.mem))) ?_
   (try simp only[EVz,seval,↓reduceIte,EV6,EV7,N.yes,N.le0,N.lt',N.row,hw,N.get,ak D,ak E,am D,am E,ak I,ak J,am I,am J,F,M,append_eq])
   intro b6 d2
   refine⟨[x.cs],rfl,by simp[U.cs_len],by simp,?_⟩
   (try simp only[EVz,seval,↓reduceIte,EV6,EV7,ak D,ak E,am D,am E,ak I,ak J,am I,am J,F,M,append_eq])
   refine oW (kSt c ((u.kids.take i).map U.cs)) (T++(O++[(Y,AObj.cells 27 [.int .i64 0,.int .i64 0,.int .i64 0,.int .i64 0,.str [],.nil,.nil,.nil]),(X,AObj.cells 27 [.int .i64 u.id.act,.int .i64 u.id.item,.int .i64 u.id.n,.int .i64 u.kind,.str u.label,.sc (.slice bh u.head.length ch),.sc (.slice bw u.words.length cw),.lst 8 (u.kids.map U.cs)])])) (((SubN.refl _).tail _).tail _) ?_
   refine bY (e:=27) (e':=27) (sz:=8) (bytes:=120) (rows:=(u.kids.take i).map U.cs) (ys:=[x.cs]) (g:=c.map (·.1)) (xv:=kAV c i) (by kernel_rfl) (by kernel_rfl) (by kernel_rfl) (by kernel_rfl) (by decide) (by decide) rfl bn ⟨rfl,rfl⟩ (by rw[aw];simp only[length_cons,length_nil];have:=N.lt;omega) (λ_ h=>by cases h) (λb cap pad hb Z bu cp bx bi=>?_)
   rw[kErase]at bi ⊢
   have ba:((u.kids.take i).map U.cs++[x.cs]).length=i+1:=by rw[length_append,aw];rfl
   have bb:(u.kids.take (i+1)).map U.cs=(u.kids.take i).map U.cs++[x.cs]:=by rw[N.take];simp
   (try simp only[EVz,seval,↓reduceIte,EV6,EV7,hw,ba,ak D,ak E,am D,am E,ak I,ak J,am I,am J,F,M,append_eq])
   refine ap N (some (b,cap,pad)) ⟨?_,?_⟩ ?_
   ·rw[bb];exact⟨Z,bu,cp,bx⟩
   ·rw[bb];exact bi
   ·rw[bb];exact Weak.rfl' _ _
  ·rw[take_length]at ac ⊢
   obtain⟨bk,ck,Z,cm⟩:=kS ac.1
   rw[length_map]at Z
   have bm:=ac.2
   have ah:X∉(kSt c (u.kids.map U.cs)).keys:=cn bm (by simp[Store.keys])
   have al:Y∉(kSt c (u.kids.map U.cs)).keys:=cn bm (by simp[Store.keys])
   have bd:∀v:AV,aR v (.sc (.slice bk u.kids.length ck))->RET (.agg [.int .i64 u.id.act,.int .i64 u.id.item,.int .i64 u.id.n,.int .i64 u.kind,.str u.label,.sc (.slice bh u.head.length ch),.sc (.slice bw u.words.length cw),v])
     (kSt c (u.kids.map U.cs)++(T++(O++[(Y,AObj.cells 27 [.int .i64 u.id.act,.int .i64 u.id.item,.int .i64 u.id.n,.int .i64 u.kind,.str u.label,.sc (.slice bh u.head.length ch),.sc (.slice bw u.words.length cw),v]),(X,AObj.cells 27 [.int .i64 u.id.act,.int .i64 u.id.item,.int .i64 u.id.n,.int .i64 u.kind,.str u.label,.sc (.slice bh u.head.length ch),.sc (.slice bw u.words.length cw),v])]))) (ko u):=λv hv=>
    RET.le (y:=.agg [.int .i64 u.id.act,.int .i64 u.id.item,.int .i64 u.id.n,.int .i64 u.kind,.str u.label,.sc (.slice bh u.head.length ch),.sc (.slice bw u.words.length cw),.sc (.slice bk u.kids.length ck)])
     (.inr ⟨.inl rfl,.inl rfl,.inl rfl,.inl rfl,.inl rfl,.inl rfl,.inl rfl,hv,trivial⟩) (SubN.app (SubN.app SubN.appL)) ⟨bh,ch,O,bw,cw,T,bk,ck,_,rfl,rfl,by simpa using bq,by simpa using bs,by simpa using cm⟩
   rcases c with _|⟨b,cap,pad⟩
   ·simp only[kAV]at*
    (try simp only[EVz,seval,↓reduceIte,EV6,EV7,hn,ak ah,ak al,am ah,am al,ak D,ak E,am D,am E,ak I,ak J,am I,am J,F,M,append_eq])
    exact bd _ Z
   ·simp only[kAV]at*
    (try simp only[EVz,seval,↓reduceIte,EV6,EV7,hn,ak ah,ak al,am ah,am al,ak D,ak E,am D,am E,ak I,ak J,am I,am J,F,M,append_eq])
    exact bd _ Z)
end
theorem mix_len {α:Type} {g:α->α} {f:α->List AV} {l:List α} {i:Nat} {x:α} {r:List α} (D:Rest l i x r):(((l.take i).map g++l.drop i).map f).length=l.length:=by
 simp;have:=D.lt;omega
theorem kC {α:Type} {g:α->α} {f:α->List AV} {l:List α} {i:Nat} {x:α} {r:List α} (D:Rest l i x r):(((l.take (i+1)).map g++l.drop (i+1)).map f).length=l.length:=by
 simp;have:=D.lt;omega
theorem mA {α:Type} {g:α->α} {f:α->List AV} {l:List α} {i:Nat} {x:α} {r:List α} (D:Rest l i x r) (hi:i<(((l.take i).map g++l.drop i).map f).length):(((l.take i).map g++l.drop i).map f)[i]=f x:=by
 have E:=D.lt
 have F:=D.get x
 rw[getElem_map,getElem_append_right (by simp;omega)]
 simp only[length_map,length_take,getElem_drop]
 congr 1
 have e:i+(i-min i l.length)=i:=by omega
 simp only[e]
 simpa[E]using F
theorem mix_set {α:Type} {g:α->α} {f:α->List AV} {l:List α} {i:Nat} {x:α} {r:List α} (D:Rest l i x r):(((l.take i).map g++l.drop i).map f).set i (f (g x))=((l.take (i+1)).map g++l.drop (i+1)).map f:=by
 have E:=D.lt
 rw[map_append,set_append_right _ _ (by simp;omega)]
 have e:i-(List.map f (List.map g (List.take i l))).length=0:=by simp;omega
 rw[e,D.take,map_append,map_append,map_append]
 have F:l.drop i=x::l.drop (i+1):=by
  rw[drop_eq_getElem_cons E]
  congr 1
  simpa[E]using D.get x
 rw[F]
 simp
theorem nr {l:List Wd} {i:Nat} {x:Wd} {r:List Wd} (D:Rest l i x r):(((l.take i).map Wd.bare++l.drop i).map Wd.cs).length=l.length:=mix_len D
theorem gF {l:List Wd} {i:Nat} {x:Wd} {r:List Wd} (D:Rest l i x r):(((l.take (i+1)).map Wd.bare++l.drop (i+1)).map Wd.cs).length=l.length:=kC D
theorem lV {l:List Wd} {i:Nat} {x:Wd} {r:List Wd} (D:Rest l i x r) (hi:i<(((l.take i).map Wd.bare++l.drop i).map Wd.cs).length):
  (((l.take i).map Wd.bare++l.drop i).map Wd.cs).set i (aH (((l.take i).map Wd.bare++l.drop i).map Wd.cs)[i] 1 [.int .i64 0,.int .i64 0,.int .i64 0])=(((l.take (i+1)).map Wd.bare++l.drop (i+1)).map Wd.cs):=by
 rw[mA D hi,←mix_set D]
 rfl
theorem oL {l:List U} {i:Nat} {x:U} {r:List U} (D:Rest l i x r) (hi:i<(((l.take i).map U.strip++l.drop i).map U.cs).length):
  (((l.take i).map U.strip++l.drop i).map U.cs).set i (aH (((l.take i).map U.strip++l.drop i).map U.cs)[i] 0 x.strip.cs)=(((l.take (i+1)).map U.strip++l.drop (i+1)).map U.cs):=by
 rw[mA D hi,←mix_set D]
 congr 1
 rw[aY _ _ _ (by rw[U.cs_len,U.cs_len];omega),U.cs_len,drop_of_length_le (by rw[U.cs_len];omega)]
 simp
theorem jG {a b c d:Store}:List.Perm (c++(a++(b++d))) (a++(b++(c++d))):=by
 have D:List.Perm (c++(a++(b++d))) ((a++b)++(c++d)):=by
  rw[←append_assoc a b d]
  exact perm_append_comm_assoc c (a++b) d
 rwa [append_assoc]at D
theorem iU {a b c:Store}:List.Perm (b++(a++c)) (a++(b++c)):=perm_append_comm_assoc b a c
section
variable (G:Glob)
set_option maxHeartbeats 4000000 in
theorem f307:∀(u:U),u.Short->Pure G Tryz.prog 307 [.agg u.cs] (.agg u.strip.cs):=by
 refine U.ind λu ih hs=>ko.freeze ?_
 have h0:=hs.2 u u.flat_self
 have ef:=hs.1.kids
 have eb:=h0.2.1
 have eg:=h0.2.2.1
 have hC:=f84 G u hs
 rw[U.cs_eq u]at hC ⊢
 refine ag.w c307 ?_
 unfold s307 r307
 (try simp only[EVz,seval,↓reduceIte,EV6,EV7])
 intro M ea N dl
 have F:¬M=N:=by simp only[EVK]at dl;exact λe=>dl e.symm
 have T:¬N=M:=λe=>F e.symm
 (try simp only[EVz,seval,↓reduceIte,EV6,EV7,F,T])
 refine av [] _ hC.v (ax.rfl' _) (SubN.refl _) ?_
 rintro _ _ ⟨V,Y,cm,X,Z,cp,bk,ck,O,rfl,rfl,e1,e3,e2⟩ ah
 simp only[append_eq,append_assoc]at ah
 have aw:M∉O.keys:=cn ah (by simp[Store.keys])
 have ba:N∉O.keys:=cn ah (by simp[Store.keys])
 have bo:=jM ah
 have bs:M∉cp.keys:=cn bo (by simp[Store.keys])
 have bu:N∉cp.keys:=cn bo (by simp[Store.keys])
 have d0:=jM bo
 have bp:M∉cm.keys:=cn d0 (by simp[Store.keys])
 have bq:N∉cm.keys:=cn d0 (by simp[Store.keys])
 (try simp only[EVz,seval,↓reduceIte,EV6,EV7,ak aw,ak ba,am aw,am ba,ak bs,ak bu,am bs,am bu,ak bp,ak bq,am bp,am bq,F,T,append_eq,append_assoc])
 intro d1 e9
 refine⟨[[.sc (.slice V u.head.length Y)],[.sc (.slice X u.words.length Z)]],rfl,by simp,rfl,?_⟩
 (try simp only[EVz,seval,↓reduceIte,EV6,EV7,ak aw,ak ba,am aw,am ba,ak bs,ak bu,am bs,am bu,ak bp,ak bq,am bp,am bq,F,T,append_eq,append_assoc])
 have ds:(Store.keys (O++(cp++(cm++[(N,AObj.cells 27 [.int .i64 0,.int .i64 0,.int .i64 0,.int .i64 0,.str [],.nil,.nil,.nil]),(M,AObj.cells 27 [.int .i64 0,.int .i64 0,.int .i64 0,.int .i64 u.kind,.str u.label,.sc (.slice V u.head.length Y),.sc (.slice X u.words.length Z),.sc (.slice bk u.kids.length ck)])])))).Nodup:=by simpa[Store.keys]using ah
 refine jf (ι:=Nat×Store×Store) (λp=>p.1<=2/\fI 33 4 ((if 0<p.1 then u.head.map Wd.bare else u.head).map Wd.cs) V Y p.2.1/\fI 33 4 ((if 1<p.1 then u.words.map Wd.bare else u.words).map Wd.cs) X Z p.2.2/\(Store.keys (O++(p.2.2++(p.2.1++[(N,AObj.cells 27 [.int .i64 0,.int .i64 0,.int .i64 0,.int .i64 0,.str [],.nil,.nil,.nil]),(M,AObj.cells 27 [.int .i64 0,.int .i64 0,.int .i64 0,.int .i64 u.kind,.str u.label,.sc (.slice V u.head.length Y),.sc (.slice X u.words.length Z),.sc (.slice bk u.kids.length ck)])])))).Nodup)
  (λp=>2-p.1) (λp=>[(1,.sc (.pointer (some ⟨M,0,none⟩))),(2,.sc (.pointer (some ⟨N,0,none⟩))),(15,.own (some d1) 24 1 [[.sc (.slice V u.head.length Y)],[.sc (.slice X u.words.length Z)]]),(16,.int .i64 2),(17,.int .i64 p.1)]) (λp=>O++(p.2.2++(p.2.1++[(N,AObj.cells 27 [.int .i64 0,.int .i64 0,.int .i64 0,.int .i64 0,.str [],.nil,.nil,.nil]),(M,AObj.cells 27 [.int .i64 0,.int .i64 0,.int .i64 0,.int .i64 u.kind,.str u.label,.sc (.slice V u.head.length Y),.sc (.slice X u.words.length Z),.sc (.slice bk u.kids.length ck)])]))) (0,cm,cp) ⟨Nat.zero_le _,e1,e3,ds⟩ (Weak.sub ((SubN.refl _).tail _)) ?_
 rintro⟨j,th,tw⟩ ⟨hj,al,an,bn⟩
 simp only at al an bn ⊢
 have e5:j=0\/j=1\/j=2:=by omega
 rcases e5 with rfl|rfl|rfl
 ·simp only[Nat.lt_irrefl,if_false,show ¬(1<0)by omega]at al an
  (try simp only[EVz,seval,↓reduceIte,EV6,EV7,append_eq])
  have e8:∀(i:Nat) (x:Wd),True:=λ_ _=>trivial
  refine ay (ι:=Store) u.head (λi r c=>fI 33 4 (((u.head.take i).map Wd.bare++u.head.drop i).map Wd.cs) V Y c/\(Store.keys (c++(O++(tw++[(N,AObj.cells 27 [.int .i64 0,.int .i64 0,.int .i64 0,.int .i64 0,.str [],.nil,.nil,.nil]),(M,AObj.cells 27 [.int .i64 0,.int .i64 0,.int .i64 0,.int .i64 u.kind,.str u.label,.sc (.slice V u.head.length Y),.sc (.slice X u.words.length Z),.sc (.slice bk u.kids.length ck)])])))).Nodup)
   (λi c=>[(1,.sc (.pointer (some ⟨M,0,none⟩))),(2,.sc (.pointer (some ⟨N,0,none⟩))),(15,.own (some d1) 24 1 [[.sc (.slice V u.head.length Y)],[.sc (.slice X u.words.length Z)]]),(16,.int .i64 2),(17,.int .i64 0),(4,.sc (.slice V u.head.length Y)),(22,.int .i64 u.head.length),(23,.int .i64 i)])
   (λi c=>c++(O++(tw++[(N,AObj.cells 27 [.int .i64 0,.int .i64 0,.int .i64 0,.int .i64 0,.str [],.nil,.nil,.nil]),(M,AObj.cells 27 [.int .i64 0,.int .i64 0,.int .i64 0,.int .i64 u.kind,.str u.label,.sc (.slice V u.head.length Y),.sc (.slice X u.words.length Z),.sc (.slice bk u.kids.length ck)])]))) th ⟨by simpa using al,(SubN.perm jG).2 bn⟩ (Weak.sub (SubN.perm jG)) (by omega) (λi x r c J D hw=>?_) (λc J hn=>?_)
  ·obtain⟨hO,hN⟩:=J
   rcases hO with⟨h0,_,_⟩|⟨b,pad,rfl,rfl,I,bm,bb,ac⟩
   ·exfalso
    have:=congrArg List.length h0
    have h9:=D.lt
    simp at this
    omega
   ·have E:=nr D
    have hi:i<(((u.head.take i).map Wd.bare++u.head.drop i).map Wd.cs).length:=by rw[E];exact D.lt
    (try simp only[EVz,seval,↓reduceIte,EV6,EV7,D.yes,D.le0,D.lt',hw,Nat.zero_add,append_eq])
    refine⟨by rw[ac];rw[E]at I;have:=D.lt;omega,?_⟩
    rw[dS (sz:=4) (off:=1) (c:=[.int .i64 0,.int .i64 0,.int .i64 0]) (by decide) bb hi,lV D hi]
    (try simp only[EVz,seval,↓reduceIte,EV6,EV7,hw,append_eq])
    refine ap D [(b,.cells 33 ((((u.head.take (i+1)).map Wd.bare++u.head.drop (i+1)).map Wd.cs).flatten++pad))] ⟨.inr ⟨b,pad,rfl,rfl,?_,bm,iQ _,?_⟩,by simpa[Store.keys]using hN⟩ (Weak.rfl' _ _)
    ·rw[gF D];rw[E]at I;exact I
    ·rw[←ac,length_append,length_append,au _ (iQ _),au _ (iQ _),gF D,E]
  ·obtain⟨hO,hN⟩:=J
   rw[take_length,drop_length,append_nil]at hO
   (try simp only[EVz,seval,↓reduceIte,EV6,EV7,hn])
   refine⟨(1,c,tw),⟨by omega,by simpa using hO,by simpa using an,(SubN.perm jG.symm).2 hN⟩,by simp,?_⟩
   exact Weak.sub (SubN.perm jG.symm)
 ·simp only[Nat.lt_irrefl,if_false,show(0<1)by omega,if_true]at al an
  (try simp only[EVz,seval,↓reduceIte,EV6,EV7,append_eq])
  have e8:∀(i:Nat) (x:Wd),True:=λ_ _=>trivial
  refine ay (ι:=Store) u.words (λi r c=>fI 33 4 (((u.words.take i).map Wd.bare++u.words.drop i).map Wd.cs) X Z c/\(Store.keys (c++(O++(th++[(N,AObj.cells 27 [.int .i64 0,.int .i64 0,.int .i64 0,.int .i64 0,.str [],.nil,.nil,.nil]),(M,AObj.cells 27 [.int .i64 0,.int .i64 0,.int .i64 0,.int .i64 u.kind,.str u.label,.sc (.slice V u.head.length Y),.sc (.slice X u.words.length Z),.sc (.slice bk u.kids.length ck)])])))).Nodup)
   (λi c=>[(1,.sc (.pointer (some ⟨M,0,none⟩))),(2,.sc (.pointer (some ⟨N,0,none⟩))),(15,.own (some d1) 24 1 [[.sc (.slice V u.head.length Y)],[.sc (.slice X u.words.length Z)]]),(16,.int .i64 2),(17,.int .i64 1),(4,.sc (.slice X u.words.length Z)),(22,.int .i64 u.words.length),(23,.int .i64 i)])
   (λi c=>c++(O++(th++[(N,AObj.cells 27 [.int .i64 0,.int .i64 0,.int .i64 0,.int .i64 0,.str [],.nil,.nil,.nil]),(M,AObj.cells 27 [.int .i64 0,.int .i64 0,.int .i64 0,.int .i64 u.kind,.str u.label,.sc (.slice V u.head.length Y),.sc (.slice X u.words.length Z),.sc (.slice bk u.kids.length ck)])]))) tw ⟨by simpa using an,(SubN.perm iU).2 bn⟩ (Weak.sub (SubN.perm iU)) (by omega) (λi x r c J D hw=>?_) (λc J hn=>?_)
  ·obtain⟨hO,hN⟩:=J
   rcases hO with⟨h0,_,_⟩|⟨b,pad,rfl,rfl,I,bm,bb,ac⟩
   ·exfalso
    have:=congrArg List.length h0
    have h9:=D.lt
    simp at this
    omega
   ·have E:=nr D
    have hi:i<(((u.words.take i).map Wd.bare++u.words.drop i).map Wd.cs).length:=by rw[E];exact D.lt
    (try simp only[EVz,seval,↓reduceIte,EV6,EV7,D.yes,D.le0,D.lt',hw,Nat.zero_add,append_eq])
    refine⟨by rw[ac];rw[E]at I;have:=D.lt;omega,?_⟩
    rw[dS (sz:=4) (off:=1) (c:=[.int .i64 0,.int .i64 0,.int .i64 0]) (by decide) bb hi,lV D hi]
    (try simp only[EVz,seval,↓reduceIte,EV6,EV7,hw,append_eq])
    refine ap D [(b,.cells 33 ((((u.words.take (i+1)).map Wd.bare++u.words.drop (i+1)).map Wd.cs).flatten++pad))] ⟨.inr ⟨b,pad,rfl,rfl,?_,bm,iQ _,?_⟩,by simpa[Store.keys]using hN⟩ (Weak.rfl' _ _)
    ·rw[gF D];rw[E]at I;exact I
    ·rw[←ac,length_append,length_append,au _ (iQ _),au _ (iQ _),gF D,E]
  ·obtain⟨hO,hN⟩:=J
   rw[take_length,drop_length,append_nil]at hO
   (try simp only[EVz,seval,↓reduceIte,EV6,EV7,hn])
   refine⟨(2,th,c),⟨by omega,by simpa using al,by simpa using hO,(SubN.perm iU.symm).2 hN⟩,by simp,?_⟩
   exact Weak.sub (SubN.perm iU.symm)
 ·simp only[show(0<2)by omega,show(1<2)by omega,if_true]at al an
  have d2:=jM bn
  have bd:M∉tw.keys:=cn d2 (by simp[Store.keys])
  have be:N∉tw.keys:=cn d2 (by simp[Store.keys])
  have dd:=jM d2
  have bi:M∉th.keys:=cn dd (by simp[Store.keys])
  have bl:N∉th.keys:=cn dd (by simp[Store.keys])
  (try simp only[EVz,seval,↓reduceIte,EV6,EV7,ak bd,ak be,am bd,am be,ak bi,ak bl,am bi,am bl,F,T,append_eq,append_assoc,ak aw,ak ba,am aw,am ba])
  refine ay (ι:=Store) u.kids (λi r c=>fI 27 8 (((u.kids.take i).map U.strip++u.kids.drop i).map U.cs) bk ck c/\(Store.keys (c++(tw++(th++[(N,AObj.cells 27 [.int .i64 0,.int .i64 0,.int .i64 0,.int .i64 0,.str [],.nil,.nil,.nil]),(M,AObj.cells 27 [.int .i64 0,.int .i64 0,.int .i64 0,.int .i64 u.kind,.str u.label,.sc (.slice V u.head.length Y),.sc (.slice X u.words.length Z),.sc (.slice bk u.kids.length ck)])])))).Nodup)
   (λi c=>[(1,.sc (.pointer (some ⟨M,0,none⟩))),(2,.sc (.pointer (some ⟨N,0,none⟩))),(35,.int .i64 u.kids.length),(36,.int .i64 i)]) (λi c=>c++(tw++(th++[(N,AObj.cells 27 [.int .i64 0,.int .i64 0,.int .i64 0,.int .i64 0,.str [],.nil,.nil,.nil]),(M,AObj.cells 27 [.int .i64 0,.int .i64 0,.int .i64 0,.int .i64 u.kind,.str u.label,.sc (.slice V u.head.length Y),.sc (.slice X u.words.length Z),.sc (.slice bk u.kids.length ck)])]))) O ⟨by simpa using e2,bn⟩ (Weak.rfl' _ _) (by omega) (λi x r c J D hw=>?_) (λc J hn=>?_)
  ·obtain⟨hO,hN⟩:=J
   rcases hO with⟨h0,_,_⟩|⟨b,pad,rfl,rfl,I,bm,bb,ac⟩
   ·exfalso
    have:=congrArg List.length h0
    have h9:=D.lt
    simp at this
    omega
   ·have bx:=mix_len (g:=U.strip) (f:=U.cs) D
    have hi:i<(((u.kids.take i).map U.strip++u.kids.drop i).map U.cs).length:=by rw[bx];exact D.lt
    have e4:¬b=M:=by
     intro e
     subst e
     exact cn hN (b:=b) (by simp[Store.keys]) (by simp[Store.keys])
    have e0:=jk (pad:=pad) bb hi
    rw[mA D hi]at e0
    have e6:8<=((List.map U.cs (List.map U.strip (List.take i u.kids)++List.drop i u.kids)).flatten++pad).length-i*8:=by rw[ac];rw[bx]at I;have:=D.lt;omega
    have d3:=dS (sz:=8) (off:=0) (c:=x.strip.cs) (by rw[U.cs_len];omega) (pad:=pad) bb hi
    rw[oL D hi,Nat.add_zero]at d3
    have e7:=ih x D.mem (hs.kid D.mem)
    (repeat' (first|(with_reducible first|refine AI (by omega) ?_|refine aa e7 ?_)|simp only[EVz,seval,↓reduceIte,EV6,EV7,D.yes,D.le0,D.lt',hw,e4,F,T,ak bd,ak be,ak bi,ak bl,Nat.zero_add,append_eq,e0,d3,length_drop,U.cs_len]|(with_reducible first|refine ae ?_ ?_|refine af ?_)))
    all_goals
     (try rw[d3])
     refine ap D [(b,.cells 27 ((((u.kids.take (i+1)).map U.strip++u.kids.drop (i+1)).map U.cs).flatten++pad))] ⟨.inr ⟨b,pad,rfl,rfl,?_,bm,dZ _,?_⟩,by simpa[Store.keys]using hN⟩ (Weak.rfl' _ _)
     ·rw[kC D];rw[bx]at I;exact I
     ·rw[←ac,length_append,length_append,au _ (dZ _),au _ (dZ _),kC D,bx]
  ·obtain⟨hO,hN⟩:=J
   rw[take_length,drop_length,append_nil]at hO
   have d4:M∉c.keys:=cn hN (by simp[Store.keys])
   have dc:N∉c.keys:=cn hN (by simp[Store.keys])
   (try simp only[EVz,seval,↓reduceIte,EV6,EV7,hn,ak bd,ak be,am bd,am be,ak bi,ak bl,am bi,am bl,F,T,append_eq,append_assoc,ak d4,ak dc,am d4,am dc])
   refine RET.mk' (σ':=c++(tw++th)) (SubN.app (SubN.app SubN.appL)) ⟨V,Y,th,X,Z,tw,bk,ck,c,?_,rfl,?_,?_,?_⟩
   ·rw[U.strip_eq];simp
   ·rw[U.strip_eq];exact al
   ·rw[U.strip_eq];exact an
   ·rw[U.strip_eq];exact hO
end
end Go.Av
