/-
  ABSTRACT VALUES, 15b: a region that draws, in an order of one's own: what stands fast may be loaded first.
-/
import Derived.Test.YtnoakpkjccigoaaGreatDoorXAv14toXAv15
namespace Go.Av
open Go Go.RowKit List
set_option linter.unusedSimpArgs false
set_option linter.unusedVariables false
section
variable {G:Glob} {P:Program} {ρ:Store} {ws:World} {σs:Store} {n:Nat}
theorem j5 {so:SOp} {env:Env} {σ:Store} {K:AV->Store->Prop} (h:so.slot=true):aop G P so env σ K=aq G so env σ λr=>K r σ:=by
 cases so<;>first
  |rfl
  |(exact absurd h (by simp[SOp.slot]))
theorem fE {op:Op} {so:SOp} (ht:bQ P op=some so) (h:so.slot=true):isLoad op=false:=by
 cases op with
 |load t x=>
  have ht:da P t x=some so:=ht
  unfold da at ht
  split at ht
  ·split at ht
   ·cases ht;exact absurd h (by simp[SOp.slot])
   ·cases ht
  ·cases ht
 |_=>rfl
def bS (σs:Store) (ws:World) (w':World):Prop:=∀a v,ws.cell? a=some v->¬Mut σs a.block a.off->w'.cell? a=some v
def bT (ρ:Store) (ws:World) (σs:Store) (good:List Nat) (env:Env) (a:Act):Prop:=∀j,good.contains j=true->Rep (σs++ρ) ws (env.get j) (a.tmps.getD j undef)
theorem dm {ro:Nat->Bool} {ops:Array Oper} {o:Oper} {s:SOper} (h:d9 P n ro ops o=some s):
  ∃so g,(bQ P o.op=some so\/so= .raw o.op\/∃e x m,o.op= .box e x/\bj P e=some m/\so= .boxR m (SOpd.of x))/\ej ops o.guard=some g/\dr n o.dst=true/\s=⟨o.dst,g,so⟩:=by
 have h1:ci P n ro ops (o::[])=some [s]:=by simp[ci,h]
 obtain⟨so,g,rest,e1,e2,e3,e4,e5⟩:=dH h1
 injection e5 with e5 _
 exact⟨so,g,e1,e2,e3,e5⟩
theorem put_get {env:Env} {a:Act} {d:Option Nat} {r:AV} {v:Value} {j:Nat} (hd:dr n d=true) (hs:n<=a.tmps.size):
  (d=some j/\(env.put d r).get j=r/\(a.put d v).tmps.getD j undef=v)\/(d≠some j/\(env.put d r).get j=env.get j/\(a.put d v).tmps.getD j undef=a.tmps.getD j undef):=by
 cases d with
 |none=>exact .inr ⟨by simp,rfl,rfl⟩
 |some d=>
  simp only[dr,decide_eq_true_eq]at hd
  simp only[Env.put,Act.put,Env.get_set]
  by_cases hj:d=j
  ·subst hj
   left
   refine⟨rfl,by simp,?_⟩
   rw[Array.getD_eq_getD_getElem?,Array.getElem?_setIfInBounds]
   simp[show d<a.tmps.size by omega]
  ·right
   refine⟨by simpa using hj,by simp[hj],?_⟩
   rw[Array.getD_eq_getD_getElem?,Array.getD_eq_getD_getElem?,Array.getElem?_setIfInBounds]
   simp[hj]
theorem bT.put {good:List Nat} {env:Env} {a:Act} {d:Option Nat} {r:AV} {v:Value} {kp:Bool} (h:bT ρ ws σs good env a) (hd:dr n d=true) (hs:n<=a.tmps.size)
  (hr:kp=true->Rep (σs++ρ) ws r v):bT ρ ws σs (ca d good kp) (env.put d r) (a.put d v):=by
 intro j hj
 rcases put_get (env:=env) (a:=a) (r:=r) (v:=v) (j:=j) hd hs with⟨e1,e2,e3⟩|⟨e1,e2,e3⟩
 ·subst e1
  rw[e2,e3]
  cases kp with
  |true=>exact hr rfl
  |false=>simp[ca]at hj
 ·rw[e2,e3]
  refine h j ?_
  cases d with
  |none=>exact hj
  |some d=>
   have hne:¬j=d:=λe=>e1 (by rw[e])
   cases kp with
   |true=>simpa[ca,hne]using hj
   |false=>simp[ca]at hj;simpa using hj.1
theorem bT.set {good:List Nat} {env:Env} {a:Act} {j:Nat} {b:Bool} (h:bT ρ ws σs good env a) (hj:env.get j= .bool b):bT ρ ws σs good (env.set j (.bool b)) a:=by
 intro i hi
 rw[Env.get_set]
 by_cases e:j=i
 ·subst e;rw[←hj];simpa using h j hi
 ·simpa[e]using h i hi
theorem od {t:TypeId} {d:TypeDesc} {m:Nat} {K:AV->Prop} {cs:List AV} {ad:Addr} (hu:P.underlying t=some d) (hn:bj P t=some m) (h1:(aggD d||m==1)=true) (hr:RepAt (σs++ρ) ws ad 0 cs)
  (h:eV (aggD d) m cs K):∃r v,K r/\Rep (σs++ρ) ws r v/\∀w',bS σs ws w'->(loadVar t ad).run P w'= .ok v w':=by
 obtain⟨vs,l1,l2,l3,l4⟩:=iO hr m h.1
 have fx:∀j v,vs[j]? =some v->∀w',bS σs ws w'->w'.cell? (ad.add j)=some v:=by
  intro j v hv w' hw
  have hj:j<cs.length:=by
   have:=(List.getElem?_eq_some_iff.1 hv).1
   have:=h.1
   omega
  obtain⟨u,⟨hu,hm⟩,_,_⟩:=hr.get j hj
  rw[Nat.zero_add]at hu hm
  refine hw _ _ (l4 j v hv) λhmm=>hm (Mut.append.2 (.inl hmm))
 refine⟨_,if aggD d then .agg vs.toArray else vs.headD undef,h.2,?_,λw' hw=>iN hu hn h1 ad vs l1 w' (λj v hv=>fx j v hv w' hw)⟩
 cases hd:aggD d with
 |true=>simp only[if_true,Rep];exact⟨vs.toArray,rfl,by simpa using l3,by simpa using l2⟩
 |false=>
  simp[hd]at h1
  subst h1
  match vs,l1 with
  |[v],_=>
   match cs,h.1 with
   |c::cs,_=>
    simp only[take_succ_cons,take_zero,RepL]at l2
    obtain⟨u,us,e,h2,_⟩:=l2
    simp only[List.cons.injEq]at e
    simp only[Bool.false_eq_true,if_false,headD_cons]
    rw[e.1];exact h2
theorem j8 {off:Nat} {x:AV} {K:AV->Prop} (h:cQ off x K):∃R,K R/\∀K':AV->Prop,K' R->cQ off x K':=by
 unfold cQ at h
 split at h
 ·exact⟨_,h,λK' hk=>hk⟩
 ·exact⟨_,h,λK' hk=>hk⟩
 ·exact h.elim
theorem lb {ro:Nat->Bool} {ops:Array Oper} {listed:Array Bool} {good good':List Nat} {i j:Nat} {so:SOper} (h:gz P n ro ops listed good i=some (j,so,good')):i=j:=by
 unfold gz at h
 split at h
 ·cases h
 split at h
 ·cases h
 split at h
 rotate_left
 ·cases h
 split at h
 ·split at h
  ·cases h;rfl
  ·cases h
 ·split at h
  ·split at h
   ·split at h
    ·cases h;rfl
    ·cases h
   ·cases h
  ·cases h
 ·split at h
  ·cases h;rfl
  ·cases h
theorem eK {ro:Nat->Bool} {ops:Array Oper} {Q:Exit->Act->World->Prop} {K:Env->Store->Prop} (hsel:Region.noSelect ops=true) (hQ:∀c a w,¬Q (.panic c) a w)
  (hK:∀env σ a w,K env σ->St G ρ ws σs n env σ a w->Q .normal a w) (hSs:Sat G (σs++ρ) ws):
  ∀(f:Nat) (listed:Array Bool) (good:List Nat) (sl:List SOper) (env:Env) (σ:Store) (a:Act) (w:World),j7 P n ro ops f listed good=some sl->
   srun G P sl env σ K->St G ρ ws σs n env σ a w->bT ρ ws σs good env a->wpAnyH P .any ops Q (bS σs ws) f listed a w
 |0,listed,good,sl,env,σ,a,w,hd,h,st,hg=>by
  simp only[j7]at hd
  split at hd
  ·rename_i hr
   cases hd
   exact⟨by simpa using hr,hK _ _ _ _ h st⟩
  ·cases hd
 |f+1,listed,good,sl,env,σ,a,w,hd,h,st,hg=>by
  have keeps:∀{env σ a w},St G ρ ws σs n env σ a w->bS σs ws w:=λst ad v hv hm=>(st.ev.cell ad v hv hm).1
  simp only[j7]at hd
  split at hd
  ·rename_i hr
   cases hd
   exact wpAnyH_done (by simpa using hr) (hK _ _ _ _ h st) _
  rename_i hne
  split at hd
  ·
   rename_i i so good' hfs
   obtain⟨rest,hrest,rfl⟩:=Option.map_eq_some_iff.1 hd
   obtain⟨i',hi',hh⟩:=exists_of_findSome?_eq_some hfs
   obtain rfl:i'=i:=lb hh
   have hrd:(Region.ready .any ops listed).contains i'=true:=by simpa using hi'
   unfold gz at hh
   split at hh
   ·cases hh
   rename_i o ho
   split at hh
   ·cases hh
   rename_i s0 hto
   obtain⟨sop,g,e1,e2,e3,rfl⟩:=dm hto
   split at hh
   rotate_left
   ·cases hh
   rename_i hfree
   have take:∀(op':SOp) (kp:Bool),so=⟨o.dst,g,op'⟩->good'=ca o.dst good kp->
     (∀env,(∀j,Rep (σ++ρ) w (env.get j) (a.tmps.getD j undef))->bT ρ ws σs good env a->aop G P op' env σ (λr σ'=>srun G P rest (env.put o.dst r) σ' K)->
      ∃r u,srun G P rest (env.put o.dst r) σ K/\Rep (σ++ρ) w r u/\(kp=true->Rep (σs++ρ) ws r u)/\∀w',bS σs ws w'->(execOp a.eval o).run P w'= .ok (.value u) w')->
     wpAnyH P .any ops Q (bS σs ws) (f+1) listed a w:=by
    intro op' kp e4 e5 hop
    subst e4 e5
    have go:∀env,aop G P op' env σ (λr σ'=>srun G P rest (env.put o.dst r) σ' K)->St G ρ ws σs n env σ a w->bT ρ ws σs good env a->Region.wanted o (yielded ops a.tmps)=true->
      wpAnyH P .any ops Q (bS σs ws) (f+1) listed a w:=by
     intro env h st hg hw
     obtain⟨r,u,hk,hr,hrs,hrun⟩:=hop env st.env hg h
     exact wpAnyH_take ho hsel hfree hrd (λc a w h=>(hQ _ _ _ h).elim) (.inl ⟨hw,hrun⟩) (keeps st)
      (eK hsel hQ hK hSs f _ _ rest _ _ _ _ hrest hk (st.put e3 st.sat (Ev.refl σ w) hr) (hg.put e3 st.size hrs))
    have skip:∀env,srun G P rest (env.put o.dst aC) σ K->St G ρ ws σs n env σ a w->bT ρ ws σs good env a->Region.wanted o (yielded ops a.tmps)=false->
      wpAnyH P .any ops Q (bS σs ws) (f+1) listed a w:=λenv h st hg hw=>
     wpAnyH_take ho hsel hfree hrd (λc a w h=>(hQ _ _ _ h).elim) (.inr ⟨hw,rfl⟩) (keeps st)
      (eK hsel hQ hK hSs f _ _ rest _ _ _ _ hrest h (st.put e3 st.sat (Ev.refl σ w) (cg _ w)) (hg.put e3 st.size λ_=>cg _ _))
    cases hgd:o.guard with
    |none=>
     rw[hgd]at e2
     cases e2
     exact go env h st hg (cC hgd)
    |some jb=>
     obtain⟨j,want⟩:=jb
     rw[hgd]at e2
     obtain⟨d,hd',rfl⟩:=bI e2
     have h:gd (env.get d) want (aop G P op' (env.set d (.bool want)) σ λr σ'=>srun G P rest ((env.set d (.bool want)).put o.dst r) σ' K)
      (srun G P rest ((env.set d (.bool (!want))).put o.dst aC) σ K) (srun G P rest (env.put o.dst aC) σ K):=h
     unfold gd at h
     split at h
     ·rename_i b hb
      by_cases hbw:b=want
      ·subst hbw
       exact go _ (h.1 rfl) (st.set hb) (hg.set hb) (by rw[bE hgd hd' st.env hb];simp)
      ·have hb2:b= !want:=by cases b<;>cases want<;>simp_all
       subst hb2
       exact skip _ (h.2 rfl) (st.set hb) (hg.set hb) (by rw[bE hgd hd' st.env hb];cases want<;>rfl)
     ·rename_i hb
      exact skip _ h st hg (cr hgd hd' st.env hb)
     ·exact h.elim
   have plain:sop.slot=true->so=⟨o.dst,g,sop⟩->good'=ca o.dst good false->wpAnyH P .any ops Q (bS σs ws) (f+1) listed a w:=by
    intro hs e4 e5
    have e1:bQ P o.op=some sop:=e1.resolve_right λe=>by
     rcases e with e|⟨_,_,_,_,_,e⟩<;>(rw[e]at hs;exact absurd hs (by simp[SOp.slot]))
    refine take sop false e4 e5 λenv hE hgood h=>?_
    rw[j5 hs]at h
    obtain⟨r,u,hk,hr,hrun⟩:=dg rfl e1 rfl st.sat hE h
    exact⟨r,u,hk,hr,(λc=>by cases c),λw' _=>hrun w' (λc=>by rw[fE e1 hs]at c;cases c)⟩
   split at hh
   ·
    rename_i t p k hop
    split at hh
    rotate_left
    ·cases hh
    rename_i hs
    cases hh
    have hs:sop.slot=true:=hs
    have e1:bQ P o.op=some sop:=e1.resolve_right λe=>by
     rcases e with e|⟨_,_,_,_,_,e⟩<;>(rw[e]at hs;exact absurd hs (by simp[SOp.slot]))
    have e1':bM P t (.tmp p) k=some sop:=by rw[hop]at e1;exact e1
    obtain⟨off,hoff⟩:∃off,sop= .fieldA off (.t p):=by
     unfold bM at e1'
     split at e1'
     ·split at e1'
      ·split at e1'
       ·cases e1';exact⟨_,rfl⟩
       ·cases e1'
      ·cases e1'
     ·cases e1'
    subst hoff
    refine take (.fieldA off (.t p)) (good.contains p) rfl rfl λenv hE hgood h=>?_
    have h:cQ off (env.get p) (λr=>srun G P rest (env.put o.dst r) σ K):=h
    obtain⟨R,hKR,hR⟩:=j8 h
    obtain⟨r,u,hk,hr,hrun⟩:=dg (env:=env) (K:=λr=>r=R) rfl e1 rfl st.sat hE (show cQ off (env.get p) (λr=>r=R)from hR (λr=>r=R) rfl)
    subst hk
    have hany:∀w',(execOp a.eval o).run P w'= .ok (.value u) w':=λw'=>hrun w' (λc=>by rw[fE e1 rfl]at c;cases c)
    refine⟨r,u,hKR,hr,λhp=>?_,λw' _=>hany w'⟩
    have hE1:∀j,Rep (σs++ρ) ws (Env.get [(p,env.get p)] j) (a.tmps.getD j undef):=by
     intro j
     simp only[Env.get]
     split
     ·rename_i e;subst e;exact hgood _ hp
     ·simp only[Rep]
    obtain⟨r2,u2,hk2,hr2,hrun2⟩:=dg (env:=[(p,env.get p)]) (K:=λr'=>r'=r) rfl e1 (rfl:σs++ρ=σs++ρ) hSs hE1 (by
     show cQ off (Env.get [(p,env.get p)] p) (λr'=>r'=r)
     simp only[Env.get,if_true]
     exact hR (λr'=>r'=r) rfl)
    subst hk2
    have:=hrun2 w (λc=>by rw[fE e1 rfl]at c;cases c)
    rw[hany w]at this
    injection this with this _
    injection this with this
    rw[this];exact hr2
   ·
    rename_i t p hop
    split at hh
    rotate_left
    ·cases hh
    rename_i hp
    split at hh
    rotate_left
    ·cases hh
    rename_i d m hu hm
    split at hh
    rotate_left
    ·cases hh
    rename_i h1
    cases hh
    refine take (.loadF (aggD d) m (.t p)) false rfl rfl λenv hE hgood h=>?_
    have h:refX (env.get p) λcs=>eV (aggD d) m cs (λr=>srun G P rest (env.put o.dst r) σ K):=h
    unfold refX at h
    split at h
    rotate_left
    ·exact h.elim
    rename_i cs hcs
    have hr:=hgood p hp
    rw[hcs]at hr
    simp only[Rep]at hr
    obtain⟨ad,had,hra⟩:=hr
    obtain⟨r,v,hk,hrep,hrun⟩:=od hu hm h1 hra h
    refine⟨r,v,hk,Rep.ev st.ev _ _ hrep,(λc=>by cases c),λw' hw=>?_⟩
    have e3:a.eval (.tmp p)= .pointer (some ad):=had
    simp[execOp,hop,Instr.loadAt,e3,Instr.sureAddr,hrun w' hw]
   ·split at hh
    rotate_left
    ·cases hh
    rename_i hs
    cases hh
    exact plain hs rfl rfl
  ·
   split at hd
   rotate_left
   ·cases hd
   rename_i i hrs
   split at hd
   rotate_left
   ·cases hd
   rename_i s0 hs0
   obtain⟨rest,hrest,rfl⟩:=Option.map_eq_some_iff.1 hd
   obtain⟨o,ho,hto⟩:=Option.bind_eq_some_iff.1 hs0
   obtain⟨sop,g,e1,e2,e3,rfl⟩:=dm hto
   refine wpAnyH_all hrs (by simp) λi' hi'=>?_
   have hi':i'=i:=by simpa using hi'
   subst hi'
   have next:∀env σ a w,srun G P rest env σ K->St G ρ ws σs n env σ a w->bT ρ ws σs (ca o.dst good false) env a->bS σs ws w/\wpAnyH P .any ops Q (bS σs ws) f (listed.setIfInBounds i' true) a w:=
    λenv σ a w h st hg=>⟨keeps st,eK hsel hQ hK hSs f _ _ rest _ _ _ _ hrest h st hg⟩
   have go:∀env,aop G P sop env σ (λr σ'=>srun G P rest (env.put o.dst r) σ' K)->St G ρ ws σs n env σ a w->bT ρ ws σs good env a->Region.wanted o (yielded ops a.tmps)=true->
     wpOp P ops Q i' (λa' w'=>bS σs ws w'/\wpAnyH P .any ops Q (bS σs ws) f (listed.setIfInBounds i' true) a' w') a w:=by
    intro env h st hg hw
    unfold wpOp
    simp only[ho]
    rw[if_pos hw]
    refine .inl ?_
    have gp:∀{r v},bT ρ ws σs (ca o.dst good false) (env.put o.dst r) (a.put o.dst v):=hg.put e3 st.size (λc=>by cases c)
    rcases e1 with e1|e|⟨t,x,m,hb,hm,e⟩
    ·exact gx rfl e1 st.sat st.env h λv r σ' w' hk hs he hr=>next _ _ _ _ hk (st.put e3 hs he hr) gp
    ·rw[e]at h
     obtain⟨v,w',r,σ',hr,hk,hs,he,hrep⟩:=h ρ w a o rfl st.sat st.env
     rcases hr with hr|⟨hr,rfl⟩
     ·exact bF hr (next _ _ _ _ hk (st.put e3 hs he hrep) gp)
     ·exact eB hr (next _ _ _ _ hk (st.put e3 hs he hrep) gp)
    ·rw[e]at h
     exact mR (n:=m) (K:=λr σ'=>srun G P rest (env.put o.dst r) σ' K) hb st.sat st.env h λv r σ' w' hk hs he hr=>next _ _ _ _ hk (st.put e3 hs he hr) gp
   have skip:∀env,srun G P rest (env.put o.dst aC) σ K->St G ρ ws σs n env σ a w->bT ρ ws σs good env a->Region.wanted o (yielded ops a.tmps)=false->
     wpOp P ops Q i' (λa' w'=>bS σs ws w'/\wpAnyH P .any ops Q (bS σs ws) f (listed.setIfInBounds i' true) a' w') a w:=by
    intro env h st hg hw
    unfold wpOp
    simp only[ho,hw]
    exact next _ _ _ _ h (st.put e3 st.sat (Ev.refl σ w) (cg _ w)) (hg.put e3 st.size (λc=>by cases c))
   cases hgd:o.guard with
   |none=>
    rw[hgd]at e2
    cases e2
    exact go env h st hg (cC hgd)
   |some jb=>
    obtain⟨j,want⟩:=jb
    rw[hgd]at e2
    obtain⟨d,hd',rfl⟩:=bI e2
    have h:gd (env.get d) want (aop G P sop (env.set d (.bool want)) σ λr σ'=>srun G P rest ((env.set d (.bool want)).put o.dst r) σ' K)
     (srun G P rest ((env.set d (.bool (!want))).put o.dst aC) σ K) (srun G P rest (env.put o.dst aC) σ K):=h
    unfold gd at h
    split at h
    ·rename_i b hb
     by_cases hbw:b=want
     ·subst hbw
      exact go _ (h.1 rfl) (st.set hb) (hg.set hb) (by rw[bE hgd hd' st.env hb];simp)
     ·have hb2:b= !want:=by cases b<;>cases want<;>simp_all
      subst hb2
      exact skip _ (h.2 rfl) (st.set hb) (hg.set hb) (by rw[bE hgd hd' st.env hb];cases want<;>rfl)
    ·rename_i hb
     exact skip _ h st hg (cr hgd hd' st.env hb)
    ·exact h.elim
theorem ni {env:Env} {σ:Store} {K:Env->Store->Prop}:∀{l:List (Option DT)} {t:DT},allD l=some t->trun G P t env σ K->∀x∈l,∃t',x=some t'/\trun G P t' env σ K
 |[],_,h,_,_,_=>by cases h
 |[y],t,h,hr,x,hx=>by
  have hx:x=y:=by simpa using hx
  subst hx
  exact⟨t,h,hr⟩
 |y::z::l,t,h,hr,x,hx=>by
  unfold allD at h
  simp only[]at h
  split at h
  ·rename_i a b hb
   cases h
   rcases mem_cons.1 hx with rfl|hx
   ·exact⟨a,rfl,hr.1⟩
   ·exact ni hb hr.2 x hx
  ·cases h
theorem eE {ro:Nat->Bool} {ops:Array Oper} {Q:Exit->Act->World->Prop} {K:Env->Store->Prop} (hsel:Region.noSelect ops=true) (hQ:∀c a w,¬Q (.panic c) a w)
  (hK:∀env σ a w,K env σ->St G ρ ws σs n env σ a w->Q .normal a w) (hSs:Sat G (σs++ρ) ws):
  ∀(f:Nat) (listed:Array Bool) (good:List Nat) (sl:DT) (env:Env) (σ:Store) (a:Act) (w:World),jZ P n ro ops f listed good=some sl->
   trun G P sl env σ K->St G ρ ws σs n env σ a w->bT ρ ws σs good env a->wpAnyH P .any ops Q (bS σs ws) f listed a w
 |0,listed,good,sl,env,σ,a,w,hd,h,st,hg=>by
  simp only[jZ]at hd
  split at hd
  ·rename_i hr
   cases hd
   exact⟨by simpa using hr,hK _ _ _ _ h st⟩
  ·cases hd
 |f+1,listed,good,sl,env,σ,a,w,hd,h,st,hg=>by
  have keeps:∀{env σ a w},St G ρ ws σs n env σ a w->bS σs ws w:=λst ad v hv hm=>(st.ev.cell ad v hv hm).1
  simp only[jZ]at hd
  split at hd
  ·rename_i hr
   cases hd
   exact wpAnyH_done (by simpa using hr) (hK _ _ _ _ h st) _
  rename_i hne
  split at hd
  ·
   rename_i i so good' hfs
   obtain⟨rest,hrest,rfl⟩:=Option.map_eq_some_iff.1 hd
   obtain⟨i',hi',hh⟩:=exists_of_findSome?_eq_some hfs
   obtain rfl:i'=i:=lb hh
   have hrd:(Region.ready .any ops listed).contains i'=true:=by simpa using hi'
   unfold gz at hh
   split at hh
   ·cases hh
   rename_i o ho
   split at hh
   ·cases hh
   rename_i s0 hto
   obtain⟨sop,g,e1,e2,e3,rfl⟩:=dm hto
   split at hh
   rotate_left
   ·cases hh
   rename_i hfree
   have take:∀(op':SOp) (kp:Bool),so=⟨o.dst,g,op'⟩->good'=ca o.dst good kp->
     (∀env,(∀j,Rep (σ++ρ) w (env.get j) (a.tmps.getD j undef))->bT ρ ws σs good env a->aop G P op' env σ (λr σ'=>trun G P rest (env.put o.dst r) σ' K)->
      ∃r u,trun G P rest (env.put o.dst r) σ K/\Rep (σ++ρ) w r u/\(kp=true->Rep (σs++ρ) ws r u)/\∀w',bS σs ws w'->(execOp a.eval o).run P w'= .ok (.value u) w')->
     wpAnyH P .any ops Q (bS σs ws) (f+1) listed a w:=by
    intro op' kp e4 e5 hop
    subst e4 e5
    have go:∀env,aop G P op' env σ (λr σ'=>trun G P rest (env.put o.dst r) σ' K)->St G ρ ws σs n env σ a w->bT ρ ws σs good env a->Region.wanted o (yielded ops a.tmps)=true->
      wpAnyH P .any ops Q (bS σs ws) (f+1) listed a w:=by
     intro env h st hg hw
     obtain⟨r,u,hk,hr,hrs,hrun⟩:=hop env st.env hg h
     exact wpAnyH_take ho hsel hfree hrd (λc a w h=>(hQ _ _ _ h).elim) (.inl ⟨hw,hrun⟩) (keeps st)
      (eE hsel hQ hK hSs f _ _ rest _ _ _ _ hrest hk (st.put e3 st.sat (Ev.refl σ w) hr) (hg.put e3 st.size hrs))
    have skip:∀env,trun G P rest (env.put o.dst aC) σ K->St G ρ ws σs n env σ a w->bT ρ ws σs good env a->Region.wanted o (yielded ops a.tmps)=false->
      wpAnyH P .any ops Q (bS σs ws) (f+1) listed a w:=λenv h st hg hw=>
     wpAnyH_take ho hsel hfree hrd (λc a w h=>(hQ _ _ _ h).elim) (.inr ⟨hw,rfl⟩) (keeps st)
      (eE hsel hQ hK hSs f _ _ rest _ _ _ _ hrest h (st.put e3 st.sat (Ev.refl σ w) (cg _ w)) (hg.put e3 st.size λ_=>cg _ _))
    cases hgd:o.guard with
    |none=>
     rw[hgd]at e2
     cases e2
     exact go env h st hg (cC hgd)
    |some jb=>
     obtain⟨j,want⟩:=jb
     rw[hgd]at e2
     obtain⟨d,hd',rfl⟩:=bI e2
     have h:gd (env.get d) want (aop G P op' (env.set d (.bool want)) σ λr σ'=>trun G P rest ((env.set d (.bool want)).put o.dst r) σ' K)
      (trun G P rest ((env.set d (.bool (!want))).put o.dst aC) σ K) (trun G P rest (env.put o.dst aC) σ K):=h
     unfold gd at h
     split at h
     ·rename_i b hb
      by_cases hbw:b=want
      ·subst hbw
       exact go _ (h.1 rfl) (st.set hb) (hg.set hb) (by rw[bE hgd hd' st.env hb];simp)
      ·have hb2:b= !want:=by cases b<;>cases want<;>simp_all
       subst hb2
       exact skip _ (h.2 rfl) (st.set hb) (hg.set hb) (by rw[bE hgd hd' st.env hb];cases want<;>rfl)
     ·rename_i hb
      exact skip _ h st hg (cr hgd hd' st.env hb)
     ·exact h.elim
   have plain:sop.slot=true->so=⟨o.dst,g,sop⟩->good'=ca o.dst good false->wpAnyH P .any ops Q (bS σs ws) (f+1) listed a w:=by
    intro hs e4 e5
    have e1:bQ P o.op=some sop:=e1.resolve_right λe=>by
     rcases e with e|⟨_,_,_,_,_,e⟩<;>(rw[e]at hs;exact absurd hs (by simp[SOp.slot]))
    refine take sop false e4 e5 λenv hE hgood h=>?_
    rw[j5 hs]at h
    obtain⟨r,u,hk,hr,hrun⟩:=dg rfl e1 rfl st.sat hE h
    exact⟨r,u,hk,hr,(λc=>by cases c),λw' _=>hrun w' (λc=>by rw[fE e1 hs]at c;cases c)⟩
   split at hh
   ·
    rename_i t p k hop
    split at hh
    rotate_left
    ·cases hh
    rename_i hs
    cases hh
    have hs:sop.slot=true:=hs
    have e1:bQ P o.op=some sop:=e1.resolve_right λe=>by
     rcases e with e|⟨_,_,_,_,_,e⟩<;>(rw[e]at hs;exact absurd hs (by simp[SOp.slot]))
    have e1':bM P t (.tmp p) k=some sop:=by rw[hop]at e1;exact e1
    obtain⟨off,hoff⟩:∃off,sop= .fieldA off (.t p):=by
     unfold bM at e1'
     split at e1'
     ·split at e1'
      ·split at e1'
       ·cases e1';exact⟨_,rfl⟩
       ·cases e1'
      ·cases e1'
     ·cases e1'
    subst hoff
    refine take (.fieldA off (.t p)) (good.contains p) rfl rfl λenv hE hgood h=>?_
    have h:cQ off (env.get p) (λr=>trun G P rest (env.put o.dst r) σ K):=h
    obtain⟨R,hKR,hR⟩:=j8 h
    obtain⟨r,u,hk,hr,hrun⟩:=dg (env:=env) (K:=λr=>r=R) rfl e1 rfl st.sat hE (show cQ off (env.get p) (λr=>r=R)from hR (λr=>r=R) rfl)
    subst hk
    have hany:∀w',(execOp a.eval o).run P w'= .ok (.value u) w':=λw'=>hrun w' (λc=>by rw[fE e1 rfl]at c;cases c)
    refine⟨r,u,hKR,hr,λhp=>?_,λw' _=>hany w'⟩
    have hE1:∀j,Rep (σs++ρ) ws (Env.get [(p,env.get p)] j) (a.tmps.getD j undef):=by
     intro j
     simp only[Env.get]
     split
     ·rename_i e;subst e;exact hgood _ hp
     ·simp only[Rep]
    obtain⟨r2,u2,hk2,hr2,hrun2⟩:=dg (env:=[(p,env.get p)]) (K:=λr'=>r'=r) rfl e1 (rfl:σs++ρ=σs++ρ) hSs hE1 (by
     show cQ off (Env.get [(p,env.get p)] p) (λr'=>r'=r)
     simp only[Env.get,if_true]
     exact hR (λr'=>r'=r) rfl)
    subst hk2
    have:=hrun2 w (λc=>by rw[fE e1 rfl]at c;cases c)
    rw[hany w]at this
    injection this with this _
    injection this with this
    rw[this];exact hr2
   ·
    rename_i t p hop
    split at hh
    rotate_left
    ·cases hh
    rename_i hp
    split at hh
    rotate_left
    ·cases hh
    rename_i d m hu hm
    split at hh
    rotate_left
    ·cases hh
    rename_i h1
    cases hh
    refine take (.loadF (aggD d) m (.t p)) false rfl rfl λenv hE hgood h=>?_
    have h:refX (env.get p) λcs=>eV (aggD d) m cs (λr=>trun G P rest (env.put o.dst r) σ K):=h
    unfold refX at h
    split at h
    rotate_left
    ·exact h.elim
    rename_i cs hcs
    have hr:=hgood p hp
    rw[hcs]at hr
    simp only[Rep]at hr
    obtain⟨ad,had,hra⟩:=hr
    obtain⟨r,v,hk,hrep,hrun⟩:=od hu hm h1 hra h
    refine⟨r,v,hk,Rep.ev st.ev _ _ hrep,(λc=>by cases c),λw' hw=>?_⟩
    have e3:a.eval (.tmp p)= .pointer (some ad):=had
    simp[execOp,hop,Instr.loadAt,e3,Instr.sureAddr,hrun w' hw]
   ·split at hh
    rotate_left
    ·cases hh
    rename_i hs
    cases hh
    exact plain hs rfl rfl
  ·
   refine wpAnyH_all rfl (λe=>hne (by simp[e])) λi' hi'=>?_
   obtain⟨t',ht',h⟩:=ni hd h _ (mem_map_of_mem hi')
   split at ht'
   rotate_left
   ·cases ht'
   rename_i s0 hs0
   obtain⟨rest,hrest,rfl⟩:=Option.map_eq_some_iff.1 ht'
   obtain⟨o,ho,hto⟩:=Option.bind_eq_some_iff.1 hs0
   obtain⟨sop,g,e1,e2,e3,rfl⟩:=dm hto
   have next:∀env σ a w,trun G P rest env σ K->St G ρ ws σs n env σ a w->bT ρ ws σs (ca o.dst good false) env a->bS σs ws w/\wpAnyH P .any ops Q (bS σs ws) f (listed.setIfInBounds i' true) a w:=
    λenv σ a w h st hg=>⟨keeps st,eE hsel hQ hK hSs f _ _ rest _ _ _ _ hrest h st hg⟩
   have go:∀env,aop G P sop env σ (λr σ'=>trun G P rest (env.put o.dst r) σ' K)->St G ρ ws σs n env σ a w->bT ρ ws σs good env a->Region.wanted o (yielded ops a.tmps)=true->
     wpOp P ops Q i' (λa' w'=>bS σs ws w'/\wpAnyH P .any ops Q (bS σs ws) f (listed.setIfInBounds i' true) a' w') a w:=by
    intro env h st hg hw
    unfold wpOp
    simp only[ho]
    rw[if_pos hw]
    refine .inl ?_
    have gp:∀{r v},bT ρ ws σs (ca o.dst good false) (env.put o.dst r) (a.put o.dst v):=hg.put e3 st.size (λc=>by cases c)
    rcases e1 with e1|e|⟨t,x,m,hb,hm,e⟩
    ·exact gx rfl e1 st.sat st.env h λv r σ' w' hk hs he hr=>next _ _ _ _ hk (st.put e3 hs he hr) gp
    ·rw[e]at h
     obtain⟨v,w',r,σ',hr,hk,hs,he,hrep⟩:=h ρ w a o rfl st.sat st.env
     rcases hr with hr|⟨hr,rfl⟩
     ·exact bF hr (next _ _ _ _ hk (st.put e3 hs he hrep) gp)
     ·exact eB hr (next _ _ _ _ hk (st.put e3 hs he hrep) gp)
    ·rw[e]at h
     exact mR (n:=m) (K:=λr σ'=>trun G P rest (env.put o.dst r) σ' K) hb st.sat st.env h λv r σ' w' hk hs he hr=>next _ _ _ _ hk (st.put e3 hs he hr) gp
   have skip:∀env,trun G P rest (env.put o.dst aC) σ K->St G ρ ws σs n env σ a w->bT ρ ws σs good env a->Region.wanted o (yielded ops a.tmps)=false->
     wpOp P ops Q i' (λa' w'=>bS σs ws w'/\wpAnyH P .any ops Q (bS σs ws) f (listed.setIfInBounds i' true) a' w') a w:=by
    intro env h st hg hw
    unfold wpOp
    simp only[ho,hw]
    exact next _ _ _ _ h (st.put e3 st.sat (Ev.refl σ w) (cg _ w)) (hg.put e3 st.size (λc=>by cases c))
   cases hgd:o.guard with
   |none=>
    rw[hgd]at e2
    cases e2
    exact go env h st hg (cC hgd)
   |some jb=>
    obtain⟨j,want⟩:=jb
    rw[hgd]at e2
    obtain⟨d,hd',rfl⟩:=bI e2
    have h:gd (env.get d) want (aop G P sop (env.set d (.bool want)) σ λr σ'=>trun G P rest ((env.set d (.bool want)).put o.dst r) σ' K)
     (trun G P rest ((env.set d (.bool (!want))).put o.dst aC) σ K) (trun G P rest (env.put o.dst aC) σ K):=h
    unfold gd at h
    split at h
    ·rename_i b hb
     by_cases hbw:b=want
     ·subst hbw
      exact go _ (h.1 rfl) (st.set hb) (hg.set hb) (by rw[bE hgd hd' st.env hb];simp)
     ·have hb2:b= !want:=by cases b<;>cases want<;>simp_all
      subst hb2
      exact skip _ (h.2 rfl) (st.set hb) (hg.set hb) (by rw[bE hgd hd' st.env hb];cases want<;>rfl)
    ·rename_i hb
     exact skip _ h st hg (cr hgd hd' st.env hb)
    ·exact h.elim
end
end Go.Av
