/-
  ABSTRACT VALUES, 15b: a region that draws, in an order of one's own: what stands fast may be loaded first.
-/
import Derived.Test.YtjdccoplpljmlaaGreatDoorVXAv14toXAv15
namespace Go.Av
open Go Go.RowKit List
set_option linter.unusedSimpArgs false
set_option linter.unusedVariables false
section
variable {G:Glob} {P:Program} {ρ:Store} {ws:World} {σs:Store} {n:Nat}
theorem kx {E:SOp} {env:Env} {σ:Store} {K:AV->Store->Prop} (h:E.slot=true):aop G P E env σ K=aq G E env σ λr=>K r σ:=by
 cases E<;>first
  |rfl
  |(exact absurd h (by simp[SOp.slot]))
theorem fo {op:Op} {F:SOp} (E:bN P op=some F) (h:F.slot=true):isLoad op=false:=by
 cases op with
 |load t x=>
  have E:cW P t x=some F:=E
  unfold cW at E
  split at E
  ·split at E
   ·cases E;exact absurd h (by simp[SOp.slot])
   ·cases E
  ·cases E
 |_=>rfl
def bO (σs:Store) (ws:World) (w':World):Prop:=∀a v,ws.cell? a=some v->¬Mut σs a.block a.off->w'.cell? a=some v
def bP (ρ:Store) (ws:World) (σs:Store) (E:List Nat) (env:Env) (a:Act):Prop:=∀j,E.contains j=true->Rep (σs++ρ) ws (env.get j) (a.tmps.getD j undef)
theorem db {I:Nat->Bool} {ops:Array Oper} {o:Oper} {s:SOper} (h:d7 P n I ops o=some s):
  ∃E g,(bN P o.op=some E\/E= .raw o.op\/∃e x m,o.op= .box e x/\aZ P e=some m/\E= .boxR m (SOpd.of x))/\ec ops o.guard=some g/\df n o.dst=true/\s=⟨o.dst,g,E⟩:=by
 have O:bY P n I ops (o::[])=some [s]:=by simp[bY,h]
 obtain⟨E,g,rest,J,M,N,T,F⟩:=dF O
 injection F with F _
 exact⟨E,g,J,M,N,F⟩
theorem put_get {env:Env} {a:Act} {d:Option Nat} {r:AV} {v:Value} {j:Nat} (F:df n d=true) (I:n<=a.tmps.size):
  (d=some j/\(env.put d r).get j=r/\(a.put d v).tmps.getD j undef=v)\/(d≠some j/\(env.put d r).get j=env.get j/\(a.put d v).tmps.getD j undef=a.tmps.getD j undef):=by
 cases d with
 |none=>exact .inr ⟨by simp,rfl,rfl⟩
 |some d=>
  simp only[df,decide_eq_true_eq]at F
  simp only[Env.put,Act.put,Env.get_set]
  by_cases E:d=j
  ·subst E
   left
   refine⟨rfl,by simp,?_⟩
   rw[Array.getD_eq_getD_getElem?,Array.getElem?_setIfInBounds]
   simp[show d<a.tmps.size by omega]
  ·right
   refine⟨by simpa using E,by simp[E],?_⟩
   rw[Array.getD_eq_getD_getElem?,Array.getD_eq_getD_getElem?,Array.getElem?_setIfInBounds]
   simp[E]
theorem bP.put {E:List Nat} {env:Env} {a:Act} {d:Option Nat} {r:AV} {v:Value} {I:Bool} (h:bP ρ ws σs E env a) (T:df n d=true) (X:n<=a.tmps.size)
  (V:I=true->Rep (σs++ρ) ws r v):bP ρ ws σs (bV d E I) (env.put d r) (a.put d v):=by
 intro j F
 rcases put_get (env:=env) (a:=a) (r:=r) (v:=v) (j:=j) T X with⟨J,M,N⟩|⟨J,M,N⟩
 ·subst J
  rw[M,N]
  cases I with
  |true=>exact V rfl
  |false=>simp[bV]at F
 ·rw[M,N]
  refine h j ?_
  cases d with
  |none=>exact F
  |some d=>
   have O:¬j=d:=λe=>J (by rw[e])
   cases I with
   |true=>simpa[bV,O]using F
   |false=>simp[bV]at F;simpa using F.1
theorem bP.set {E:List Nat} {env:Env} {a:Act} {j:Nat} {b:Bool} (h:bP ρ ws σs E env a) (F:env.get j= .bool b):bP ρ ws σs E (env.set j (.bool b)) a:=by
 intro i hi
 rw[Env.get_set]
 by_cases e:j=i
 ·subst e;rw[←F];simpa using h j hi
 ·simpa[e]using h i hi
theorem nA {t:TypeId} {d:TypeDesc} {m:Nat} {K:AV->Prop} {cs:List AV} {E:Addr} (M:P.underlying t=some d) (hn:aZ P t=some m) (I:(aggD d||m==1)=true) (V:RepAt (σs++ρ) ws E 0 cs)
  (h:eE (aggD d) m cs K):∃r v,K r/\Rep (σs++ρ) ws r v/\∀w',bO σs ws w'->(loadVar t E).run P w'= .ok v w':=by
 obtain⟨vs,X,O,l3,l4⟩:=jK V m h.1
 have Y:∀j v,vs[j]? =some v->∀w',bO σs ws w'->w'.cell? (E.add j)=some v:=by
  intro j v F w' N
  have hj:j<cs.length:=by
   have:=(List.getElem?_eq_some_iff.1 F).1
   have:=h.1
   omega
  obtain⟨u,⟨M,T⟩,_,_⟩:=V.get j hj
  rw[Nat.zero_add]at M T
  refine N _ _ (l4 j v F) λJ=>T (Mut.append.2 (.inl J))
 refine⟨_,if aggD d then .agg vs.toArray else vs.headD undef,h.2,?_,λw' N=>iq M hn I E vs X w' (λj v F=>Y j v F w' N)⟩
 cases hd:aggD d with
 |true=>simp only[if_true,Rep];exact⟨vs.toArray,rfl,by simpa using l3,by simpa using O⟩
 |false=>
  simp[hd]at I
  subst I
  match vs,X with
  |[v],_=>
   match cs,h.1 with
   |c::cs,_=>
    simp only[take_succ_cons,take_zero,RepL]at O
    obtain⟨u,us,e,Z,_⟩:=O
    simp only[List.cons.injEq]at e
    simp only[Bool.false_eq_true,if_false,headD_cons]
    rw[e.1];exact Z
theorem kK {off:Nat} {x:AV} {K:AV->Prop} (h:cP off x K):∃R,K R/\∀K':AV->Prop,K' R->cP off x K':=by
 unfold cP at h
 split at h
 ·exact⟨_,h,λK' E=>E⟩
 ·exact⟨_,h,λK' E=>E⟩
 ·exact h.elim
theorem kP {J:Nat->Bool} {ops:Array Oper} {E:Array Bool} {I F:List Nat} {i j:Nat} {M:SOper} (h:gf P n J ops E I i=some (j,M,F)):i=j:=by
 unfold gf at h
 split at h
 ·cases h
 split at h
 ·cases h
 split at h
 rotate_left
 ·cases h
 split at h
 ·split at h
  ·cases h;rfl
  ·cases h
 ·split at h
  ·split at h
   ·split at h
    ·cases h;rfl
    ·cases h
   ·cases h
  ·cases h
 ·split at h
  ·cases h;rfl
  ·cases h
theorem eu {ro:Nat->Bool} {ops:Array Oper} {Q:Exit->Act->World->Prop} {K:Env->Store->Prop} (ag:Region.noSelect ops=true) (hQ:∀c a w,¬Q (.panic c) a w)
  (hK:∀env σ a w,K env σ->St G ρ ws σs n env σ a w->Q .normal a w) (bk:Sat G (σs++ρ) ws):
  ∀(f:Nat) (E:Array Bool) (I:List Nat) (sl:List SOper) (env:Env) (σ:Store) (a:Act) (w:World),j9 P n ro ops f E I=some sl->
   srun G P sl env σ K->St G ρ ws σs n env σ a w->bP ρ ws σs I env a->wpAnyH P .any ops Q (bO σs ws) f E a w
 |0,E,I,sl,env,σ,a,w,hd,h,st,V=>by
  simp only[j9]at hd
  split at hd
  ·rename_i M
   cases hd
   exact⟨by simpa using M,hK _ _ _ _ h st⟩
  ·cases hd
 |f+1,E,I,sl,env,σ,a,w,hd,h,st,V=>by
  have al:∀{env σ a w},St G ρ ws σs n env σ a w->bO σs ws w:=λst ad v hv hm=>(st.ev.cell ad v hv hm).1
  simp only[j9]at hd
  split at hd
  ·rename_i M
   cases hd
   exact wpAnyH_done (by simpa using M) (hK _ _ _ _ h st) _
  rename_i dd
  split at hd
  ·
   rename_i i so aw d1
   obtain⟨rest,Z,rfl⟩:=Option.map_eq_some_iff.1 hd
   obtain⟨i',bd,T⟩:=exists_of_findSome?_eq_some d1
   obtain rfl:i'=i:=kP T
   have cl:(Region.ready .any ops E).contains i'=true:=by simpa using bd
   unfold gf at T
   split at T
   ·cases T
   rename_i o ho
   split at T
   ·cases T
   rename_i s0 bx
   obtain⟨O,g,e1,e2,e3,rfl⟩:=db bx
   split at T
   rotate_left
   ·cases T
   rename_i bb
   have take:∀(bh:SOp) (kp:Bool),so=⟨o.dst,g,bh⟩->aw=bV o.dst I kp->
     (∀env,(∀j,Rep (σ++ρ) w (env.get j) (a.tmps.getD j undef))->bP ρ ws σs I env a->aop G P bh env σ (λr σ'=>srun G P rest (env.put o.dst r) σ' K)->
      ∃r u,srun G P rest (env.put o.dst r) σ K/\Rep (σ++ρ) w r u/\(kp=true->Rep (σs++ρ) ws r u)/\∀w',bO σs ws w'->(execOp a.eval o).run P w'= .ok (.value u) w')->
     wpAnyH P .any ops Q (bO σs ws) (f+1) E a w:=by
    intro bh kp e4 e5 be
    subst e4 e5
    have go:∀env,aop G P bh env σ (λr σ'=>srun G P rest (env.put o.dst r) σ' K)->St G ρ ws σs n env σ a w->bP ρ ws σs I env a->Region.wanted o (yielded ops a.tmps)=true->
      wpAnyH P .any ops Q (bO σs ws) (f+1) E a w:=by
     intro env h st V hw
     obtain⟨r,u,hk,M,bp,N⟩:=be env st.env V h
     exact wpAnyH_take ho ag bb cl (λc a w h=>(hQ _ _ _ h).elim) (.inl ⟨hw,N⟩) (al st)
      (eu ag hQ hK bk f _ _ rest _ _ _ _ Z hk (st.put e3 st.sat (Ev.refl σ w) M) (V.put e3 st.size bp))
    have skip:∀env,srun G P rest (env.put o.dst aE) σ K->St G ρ ws σs n env σ a w->bP ρ ws σs I env a->Region.wanted o (yielded ops a.tmps)=false->
      wpAnyH P .any ops Q (bO σs ws) (f+1) E a w:=λenv h st V hw=>
     wpAnyH_take ho ag bb cl (λc a w h=>(hQ _ _ _ h).elim) (.inr ⟨hw,rfl⟩) (al st)
      (eu ag hQ hK bk f _ _ rest _ _ _ _ Z h (st.put e3 st.sat (Ev.refl σ w) (cb _ w)) (V.put e3 st.size λ_=>cb _ _))
    cases J:o.guard with
    |none=>
     rw[J]at e2
     cases e2
     exact go env h st V (cA J)
    |some jb=>
     obtain⟨j,F⟩:=jb
     rw[J]at e2
     obtain⟨d,ah,rfl⟩:=bD e2
     have h:gd (env.get d) F (aop G P bh (env.set d (.bool F)) σ λr σ'=>srun G P rest ((env.set d (.bool F)).put o.dst r) σ' K)
      (srun G P rest ((env.set d (.bool (!F))).put o.dst aE) σ K) (srun G P rest (env.put o.dst aE) σ K):=h
     unfold gd at h
     split at h
     ·rename_i b X
      by_cases bo:b=F
      ·subst bo
       exact go _ (h.1 rfl) (st.set X) (V.set X) (by rw[bq J ah st.env X];simp)
      ·have bn:b= !F:=by cases b<;>cases F<;>simp_all
       subst bn
       exact skip _ (h.2 rfl) (st.set X) (V.set X) (by rw[bq J ah st.env X];cases F<;>rfl)
     ·rename_i X
      exact skip _ h st V (cf J ah st.env X)
     ·exact h.elim
   have plain:O.slot=true->so=⟨o.dst,g,O⟩->aw=bV o.dst I false->wpAnyH P .any ops Q (bO σs ws) (f+1) E a w:=by
    intro hs e4 e5
    have e1:bN P o.op=some O:=e1.resolve_right λe=>by
     rcases e with e|⟨_,_,_,_,_,e⟩<;>(rw[e]at hs;exact absurd hs (by simp[SOp.slot]))
    refine take O false e4 e5 λenv hE Y h=>?_
    rw[kx hs]at h
    obtain⟨r,u,hk,M,N⟩:=cZ rfl e1 rfl st.sat hE h
    exact⟨r,u,hk,M,(λc=>by cases c),λw' _=>N w' (λc=>by rw[fo e1 hs]at c;cases c)⟩
   split at T
   ·
    rename_i t p k be
    split at T
    rotate_left
    ·cases T
    rename_i hs
    cases T
    have hs:O.slot=true:=hs
    have e1:bN P o.op=some O:=e1.resolve_right λe=>by
     rcases e with e|⟨_,_,_,_,_,e⟩<;>(rw[e]at hs;exact absurd hs (by simp[SOp.slot]))
    have ac:bG P t (.tmp p) k=some O:=by rw[be]at e1;exact e1
    obtain⟨off,ch⟩:∃off,O= .fieldA off (.t p):=by
     unfold bG at ac
     split at ac
     ·split at ac
      ·split at ac
       ·cases ac;exact⟨_,rfl⟩
       ·cases ac
      ·cases ac
     ·cases ac
    subst ch
    refine take (.fieldA off (.t p)) (I.contains p) rfl rfl λenv hE Y h=>?_
    have h:cP off (env.get p) (λr=>srun G P rest (env.put o.dst r) σ K):=h
    obtain⟨R,cp,hR⟩:=kK h
    obtain⟨r,u,hk,M,N⟩:=cZ (env:=env) (K:=λr=>r=R) rfl e1 rfl st.sat hE (show cP off (env.get p) (λr=>r=R)from hR (λr=>r=R) rfl)
    subst hk
    have bm:∀w',(execOp a.eval o).run P w'= .ok (.value u) w':=λw'=>N w' (λc=>by rw[fo e1 rfl]at c;cases c)
    refine⟨r,u,cp,M,λhp=>?_,λw' _=>bm w'⟩
    have cm:∀j,Rep (σs++ρ) ws (Env.get [(p,env.get p)] j) (a.tmps.getD j undef):=by
     intro j
     simp only[Env.get]
     split
     ·rename_i e;subst e;exact Y _ hp
     ·simp only[Rep]
    obtain⟨r2,u2,d2,d3,bw⟩:=cZ (env:=[(p,env.get p)]) (K:=λr'=>r'=r) rfl e1 (rfl:σs++ρ=σs++ρ) bk cm (by
     show cP off (Env.get [(p,env.get p)] p) (λr'=>r'=r)
     simp only[Env.get,if_true]
     exact hR (λr'=>r'=r) rfl)
    subst d2
    have:=bw w (λc=>by rw[fo e1 rfl]at c;cases c)
    rw[bm w]at this
    injection this with this _
    injection this with this
    rw[this];exact d3
   ·
    rename_i t p be
    split at T
    rotate_left
    ·cases T
    rename_i hp
    split at T
    rotate_left
    ·cases T
    rename_i d m hu hm
    split at T
    rotate_left
    ·cases T
    rename_i h1
    cases T
    refine take (.loadF (aggD d) m (.t p)) false rfl rfl λenv hE Y h=>?_
    have h:refX (env.get p) λcs=>eE (aggD d) m cs (λr=>srun G P rest (env.put o.dst r) σ K):=h
    unfold refX at h
    split at h
    rotate_left
    ·exact h.elim
    rename_i cs d0
    have M:=Y p hp
    rw[d0]at M
    simp only[Rep]at M
    obtain⟨ad,cw,d4⟩:=M
    obtain⟨r,v,hk,an,N⟩:=nA hu hm h1 d4 h
    refine⟨r,v,hk,Rep.ev st.ev _ _ an,(λc=>by cases c),λw' hw=>?_⟩
    have e3:a.eval (.tmp p)= .pointer (some ad):=cw
    simp[execOp,be,Instr.loadAt,e3,Instr.sureAddr,N w' hw]
   ·split at T
    rotate_left
    ·cases T
    rename_i hs
    cases T
    exact plain hs rfl rfl
  ·
   split at hd
   rotate_left
   ·cases hd
   rename_i i bp
   split at hd
   rotate_left
   ·cases hd
   rename_i s0 dc
   obtain⟨rest,Z,rfl⟩:=Option.map_eq_some_iff.1 hd
   obtain⟨o,ho,bx⟩:=Option.bind_eq_some_iff.1 dc
   obtain⟨O,g,e1,e2,e3,rfl⟩:=db bx
   refine wpAnyH_all bp (by simp) λi' bd=>?_
   have bd:i'=i:=by simpa using bd
   subst bd
   have next:∀env σ a w,srun G P rest env σ K->St G ρ ws σs n env σ a w->bP ρ ws σs (bV o.dst I false) env a->bO σs ws w/\wpAnyH P .any ops Q (bO σs ws) f (E.setIfInBounds i' true) a w:=
    λenv σ a w h st V=>⟨al st,eu ag hQ hK bk f _ _ rest _ _ _ _ Z h st V⟩
   have go:∀env,aop G P O env σ (λr σ'=>srun G P rest (env.put o.dst r) σ' K)->St G ρ ws σs n env σ a w->bP ρ ws σs I env a->Region.wanted o (yielded ops a.tmps)=true->
     wpOp P ops Q i' (λa' w'=>bO σs ws w'/\wpAnyH P .any ops Q (bO σs ws) f (E.setIfInBounds i' true) a' w') a w:=by
    intro env h st V hw
    unfold wpOp
    simp only[ho]
    rw[if_pos hw]
    refine .inl ?_
    have gp:∀{r v},bP ρ ws σs (bV o.dst I false) (env.put o.dst r) (a.put o.dst v):=V.put e3 st.size (λc=>by cases c)
    rcases e1 with e1|e|⟨t,x,m,X,hm,e⟩
    ·exact gr rfl e1 st.sat st.env h λv r σ' w' hk hs he M=>next _ _ _ _ hk (st.put e3 hs he M) gp
    ·rw[e]at h
     obtain⟨v,w',r,σ',M,hk,hs,he,an⟩:=h ρ w a o rfl st.sat st.env
     rcases M with M|⟨M,rfl⟩
     ·exact bH M (next _ _ _ _ hk (st.put e3 hs he an) gp)
     ·exact ep M (next _ _ _ _ hk (st.put e3 hs he an) gp)
    ·rw[e]at h
     exact ms (n:=m) (K:=λr σ'=>srun G P rest (env.put o.dst r) σ' K) X st.sat st.env h λv r σ' w' hk hs he M=>next _ _ _ _ hk (st.put e3 hs he M) gp
   have skip:∀env,srun G P rest (env.put o.dst aE) σ K->St G ρ ws σs n env σ a w->bP ρ ws σs I env a->Region.wanted o (yielded ops a.tmps)=false->
     wpOp P ops Q i' (λa' w'=>bO σs ws w'/\wpAnyH P .any ops Q (bO σs ws) f (E.setIfInBounds i' true) a' w') a w:=by
    intro env h st V hw
    unfold wpOp
    simp only[ho,hw]
    exact next _ _ _ _ h (st.put e3 st.sat (Ev.refl σ w) (cb _ w)) (V.put e3 st.size (λc=>by cases c))
   cases J:o.guard with
   |none=>
    rw[J]at e2
    cases e2
    exact go env h st V (cA J)
   |some jb=>
    obtain⟨j,F⟩:=jb
    rw[J]at e2
    obtain⟨d,ah,rfl⟩:=bD e2
    have h:gd (env.get d) F (aop G P O (env.set d (.bool F)) σ λr σ'=>srun G P rest ((env.set d (.bool F)).put o.dst r) σ' K)
     (srun G P rest ((env.set d (.bool (!F))).put o.dst aE) σ K) (srun G P rest (env.put o.dst aE) σ K):=h
    unfold gd at h
    split at h
    ·rename_i b X
     by_cases bo:b=F
     ·subst bo
      exact go _ (h.1 rfl) (st.set X) (V.set X) (by rw[bq J ah st.env X];simp)
     ·have bn:b= !F:=by cases b<;>cases F<;>simp_all
      subst bn
      exact skip _ (h.2 rfl) (st.set X) (V.set X) (by rw[bq J ah st.env X];cases F<;>rfl)
    ·rename_i X
     exact skip _ h st V (cf J ah st.env X)
    ·exact h.elim
theorem nt {env:Env} {σ:Store} {K:Env->Store->Prop}:∀{l:List (Option DT)} {t:DT},allD l=some t->trun G P t env σ K->∀x∈l,∃F,x=some F/\trun G P F env σ K
 |[],_,h,_,_,_=>by cases h
 |[y],t,h,hr,x,E=>by
  have E:x=y:=by simpa using E
  subst E
  exact⟨t,h,hr⟩
 |y::z::l,t,h,hr,x,E=>by
  unfold allD at h
  simp only[]at h
  split at h
  ·rename_i a b I
   cases h
   rcases mem_cons.1 E with rfl|E
   ·exact⟨a,rfl,hr.1⟩
   ·exact nt I hr.2 x E
  ·cases h
theorem eB {ro:Nat->Bool} {ops:Array Oper} {Q:Exit->Act->World->Prop} {K:Env->Store->Prop} (ag:Region.noSelect ops=true) (hQ:∀c a w,¬Q (.panic c) a w)
  (hK:∀env σ a w,K env σ->St G ρ ws σs n env σ a w->Q .normal a w) (bh:Sat G (σs++ρ) ws):
  ∀(f:Nat) (E:Array Bool) (I:List Nat) (sl:DT) (env:Env) (σ:Store) (a:Act) (w:World),ko P n ro ops f E I=some sl->
   trun G P sl env σ K->St G ρ ws σs n env σ a w->bP ρ ws σs I env a->wpAnyH P .any ops Q (bO σs ws) f E a w
 |0,E,I,sl,env,σ,a,w,hd,h,st,V=>by
  simp only[ko]at hd
  split at hd
  ·rename_i M
   cases hd
   exact⟨by simpa using M,hK _ _ _ _ h st⟩
  ·cases hd
 |f+1,E,I,sl,env,σ,a,w,hd,h,st,V=>by
  have al:∀{env σ a w},St G ρ ws σs n env σ a w->bO σs ws w:=λst ad v hv hm=>(st.ev.cell ad v hv hm).1
  simp only[ko]at hd
  split at hd
  ·rename_i M
   cases hd
   exact wpAnyH_done (by simpa using M) (hK _ _ _ _ h st) _
  rename_i d3
  split at hd
  ·
   rename_i i so aw d1
   obtain⟨rest,Z,rfl⟩:=Option.map_eq_some_iff.1 hd
   obtain⟨i',bo,T⟩:=exists_of_findSome?_eq_some d1
   obtain rfl:i'=i:=kP T
   have cl:(Region.ready .any ops E).contains i'=true:=by simpa using bo
   unfold gf at T
   split at T
   ·cases T
   rename_i o ho
   split at T
   ·cases T
   rename_i s0 bx
   obtain⟨O,g,e1,e2,e3,rfl⟩:=db bx
   split at T
   rotate_left
   ·cases T
   rename_i bb
   have take:∀(be:SOp) (kp:Bool),so=⟨o.dst,g,be⟩->aw=bV o.dst I kp->
     (∀env,(∀j,Rep (σ++ρ) w (env.get j) (a.tmps.getD j undef))->bP ρ ws σs I env a->aop G P be env σ (λr σ'=>trun G P rest (env.put o.dst r) σ' K)->
      ∃r u,trun G P rest (env.put o.dst r) σ K/\Rep (σ++ρ) w r u/\(kp=true->Rep (σs++ρ) ws r u)/\∀w',bO σs ws w'->(execOp a.eval o).run P w'= .ok (.value u) w')->
     wpAnyH P .any ops Q (bO σs ws) (f+1) E a w:=by
    intro be kp e4 e5 bd
    subst e4 e5
    have go:∀env,aop G P be env σ (λr σ'=>trun G P rest (env.put o.dst r) σ' K)->St G ρ ws σs n env σ a w->bP ρ ws σs I env a->Region.wanted o (yielded ops a.tmps)=true->
      wpAnyH P .any ops Q (bO σs ws) (f+1) E a w:=by
     intro env h st V hw
     obtain⟨r,u,hk,M,dd,N⟩:=bd env st.env V h
     exact wpAnyH_take ho ag bb cl (λc a w h=>(hQ _ _ _ h).elim) (.inl ⟨hw,N⟩) (al st)
      (eB ag hQ hK bh f _ _ rest _ _ _ _ Z hk (st.put e3 st.sat (Ev.refl σ w) M) (V.put e3 st.size dd))
    have skip:∀env,trun G P rest (env.put o.dst aE) σ K->St G ρ ws σs n env σ a w->bP ρ ws σs I env a->Region.wanted o (yielded ops a.tmps)=false->
      wpAnyH P .any ops Q (bO σs ws) (f+1) E a w:=λenv h st V hw=>
     wpAnyH_take ho ag bb cl (λc a w h=>(hQ _ _ _ h).elim) (.inr ⟨hw,rfl⟩) (al st)
      (eB ag hQ hK bh f _ _ rest _ _ _ _ Z h (st.put e3 st.sat (Ev.refl σ w) (cb _ w)) (V.put e3 st.size λ_=>cb _ _))
    cases J:o.guard with
    |none=>
     rw[J]at e2
     cases e2
     exact go env h st V (cA J)
    |some jb=>
     obtain⟨j,F⟩:=jb
     rw[J]at e2
     obtain⟨d,ah,rfl⟩:=bD e2
     have h:gd (env.get d) F (aop G P be (env.set d (.bool F)) σ λr σ'=>trun G P rest ((env.set d (.bool F)).put o.dst r) σ' K)
      (trun G P rest ((env.set d (.bool (!F))).put o.dst aE) σ K) (trun G P rest (env.put o.dst aE) σ K):=h
     unfold gd at h
     split at h
     ·rename_i b X
      by_cases bn:b=F
      ·subst bn
       exact go _ (h.1 rfl) (st.set X) (V.set X) (by rw[bq J ah st.env X];simp)
      ·have bm:b= !F:=by cases b<;>cases F<;>simp_all
       subst bm
       exact skip _ (h.2 rfl) (st.set X) (V.set X) (by rw[bq J ah st.env X];cases F<;>rfl)
     ·rename_i X
      exact skip _ h st V (cf J ah st.env X)
     ·exact h.elim
   have plain:O.slot=true->so=⟨o.dst,g,O⟩->aw=bV o.dst I false->wpAnyH P .any ops Q (bO σs ws) (f+1) E a w:=by
    intro hs e4 e5
    have e1:bN P o.op=some O:=e1.resolve_right λe=>by
     rcases e with e|⟨_,_,_,_,_,e⟩<;>(rw[e]at hs;exact absurd hs (by simp[SOp.slot]))
    refine take O false e4 e5 λenv hE Y h=>?_
    rw[kx hs]at h
    obtain⟨r,u,hk,M,N⟩:=cZ rfl e1 rfl st.sat hE h
    exact⟨r,u,hk,M,(λc=>by cases c),λw' _=>N w' (λc=>by rw[fo e1 hs]at c;cases c)⟩
   split at T
   ·
    rename_i t p k bd
    split at T
    rotate_left
    ·cases T
    rename_i hs
    cases T
    have hs:O.slot=true:=hs
    have e1:bN P o.op=some O:=e1.resolve_right λe=>by
     rcases e with e|⟨_,_,_,_,_,e⟩<;>(rw[e]at hs;exact absurd hs (by simp[SOp.slot]))
    have ac:bG P t (.tmp p) k=some O:=by rw[bd]at e1;exact e1
    obtain⟨off,ch⟩:∃off,O= .fieldA off (.t p):=by
     unfold bG at ac
     split at ac
     ·split at ac
      ·split at ac
       ·cases ac;exact⟨_,rfl⟩
       ·cases ac
      ·cases ac
     ·cases ac
    subst ch
    refine take (.fieldA off (.t p)) (I.contains p) rfl rfl λenv hE Y h=>?_
    have h:cP off (env.get p) (λr=>trun G P rest (env.put o.dst r) σ K):=h
    obtain⟨R,cp,hR⟩:=kK h
    obtain⟨r,u,hk,M,N⟩:=cZ (env:=env) (K:=λr=>r=R) rfl e1 rfl st.sat hE (show cP off (env.get p) (λr=>r=R)from hR (λr=>r=R) rfl)
    subst hk
    have bk:∀w',(execOp a.eval o).run P w'= .ok (.value u) w':=λw'=>N w' (λc=>by rw[fo e1 rfl]at c;cases c)
    refine⟨r,u,cp,M,λhp=>?_,λw' _=>bk w'⟩
    have cm:∀j,Rep (σs++ρ) ws (Env.get [(p,env.get p)] j) (a.tmps.getD j undef):=by
     intro j
     simp only[Env.get]
     split
     ·rename_i e;subst e;exact Y _ hp
     ·simp only[Rep]
    obtain⟨r2,u2,d2,d4,bp⟩:=cZ (env:=[(p,env.get p)]) (K:=λr'=>r'=r) rfl e1 (rfl:σs++ρ=σs++ρ) bh cm (by
     show cP off (Env.get [(p,env.get p)] p) (λr'=>r'=r)
     simp only[Env.get,if_true]
     exact hR (λr'=>r'=r) rfl)
    subst d2
    have:=bp w (λc=>by rw[fo e1 rfl]at c;cases c)
    rw[bk w]at this
    injection this with this _
    injection this with this
    rw[this];exact d4
   ·
    rename_i t p bd
    split at T
    rotate_left
    ·cases T
    rename_i hp
    split at T
    rotate_left
    ·cases T
    rename_i d m hu hm
    split at T
    rotate_left
    ·cases T
    rename_i h1
    cases T
    refine take (.loadF (aggD d) m (.t p)) false rfl rfl λenv hE Y h=>?_
    have h:refX (env.get p) λcs=>eE (aggD d) m cs (λr=>trun G P rest (env.put o.dst r) σ K):=h
    unfold refX at h
    split at h
    rotate_left
    ·exact h.elim
    rename_i cs d0
    have M:=Y p hp
    rw[d0]at M
    simp only[Rep]at M
    obtain⟨ad,cw,dc⟩:=M
    obtain⟨r,v,hk,an,N⟩:=nA hu hm h1 dc h
    refine⟨r,v,hk,Rep.ev st.ev _ _ an,(λc=>by cases c),λw' hw=>?_⟩
    have e3:a.eval (.tmp p)= .pointer (some ad):=cw
    simp[execOp,bd,Instr.loadAt,e3,Instr.sureAddr,N w' hw]
   ·split at T
    rotate_left
    ·cases T
    rename_i hs
    cases T
    exact plain hs rfl rfl
  ·
   refine wpAnyH_all rfl (λe=>d3 (by simp[e])) λi' bo=>?_
   obtain⟨t',bw,h⟩:=nt hd h _ (mem_map_of_mem bo)
   split at bw
   rotate_left
   ·cases bw
   rename_i s0 dl
   obtain⟨rest,Z,rfl⟩:=Option.map_eq_some_iff.1 bw
   obtain⟨o,ho,bx⟩:=Option.bind_eq_some_iff.1 dl
   obtain⟨O,g,e1,e2,e3,rfl⟩:=db bx
   have next:∀env σ a w,trun G P rest env σ K->St G ρ ws σs n env σ a w->bP ρ ws σs (bV o.dst I false) env a->bO σs ws w/\wpAnyH P .any ops Q (bO σs ws) f (E.setIfInBounds i' true) a w:=
    λenv σ a w h st V=>⟨al st,eB ag hQ hK bh f _ _ rest _ _ _ _ Z h st V⟩
   have go:∀env,aop G P O env σ (λr σ'=>trun G P rest (env.put o.dst r) σ' K)->St G ρ ws σs n env σ a w->bP ρ ws σs I env a->Region.wanted o (yielded ops a.tmps)=true->
     wpOp P ops Q i' (λa' w'=>bO σs ws w'/\wpAnyH P .any ops Q (bO σs ws) f (E.setIfInBounds i' true) a' w') a w:=by
    intro env h st V hw
    unfold wpOp
    simp only[ho]
    rw[if_pos hw]
    refine .inl ?_
    have gp:∀{r v},bP ρ ws σs (bV o.dst I false) (env.put o.dst r) (a.put o.dst v):=V.put e3 st.size (λc=>by cases c)
    rcases e1 with e1|e|⟨t,x,m,X,hm,e⟩
    ·exact gr rfl e1 st.sat st.env h λv r σ' w' hk hs he M=>next _ _ _ _ hk (st.put e3 hs he M) gp
    ·rw[e]at h
     obtain⟨v,w',r,σ',M,hk,hs,he,an⟩:=h ρ w a o rfl st.sat st.env
     rcases M with M|⟨M,rfl⟩
     ·exact bH M (next _ _ _ _ hk (st.put e3 hs he an) gp)
     ·exact ep M (next _ _ _ _ hk (st.put e3 hs he an) gp)
    ·rw[e]at h
     exact ms (n:=m) (K:=λr σ'=>trun G P rest (env.put o.dst r) σ' K) X st.sat st.env h λv r σ' w' hk hs he M=>next _ _ _ _ hk (st.put e3 hs he M) gp
   have skip:∀env,trun G P rest (env.put o.dst aE) σ K->St G ρ ws σs n env σ a w->bP ρ ws σs I env a->Region.wanted o (yielded ops a.tmps)=false->
     wpOp P ops Q i' (λa' w'=>bO σs ws w'/\wpAnyH P .any ops Q (bO σs ws) f (E.setIfInBounds i' true) a' w') a w:=by
    intro env h st V hw
    unfold wpOp
    simp only[ho,hw]
    exact next _ _ _ _ h (st.put e3 st.sat (Ev.refl σ w) (cb _ w)) (V.put e3 st.size (λc=>by cases c))
   cases J:o.guard with
   |none=>
    rw[J]at e2
    cases e2
    exact go env h st V (cA J)
   |some jb=>
    obtain⟨j,F⟩:=jb
    rw[J]at e2
    obtain⟨d,ah,rfl⟩:=bD e2
    have h:gd (env.get d) F (aop G P O (env.set d (.bool F)) σ λr σ'=>trun G P rest ((env.set d (.bool F)).put o.dst r) σ' K)
     (trun G P rest ((env.set d (.bool (!F))).put o.dst aE) σ K) (trun G P rest (env.put o.dst aE) σ K):=h
    unfold gd at h
    split at h
    ·rename_i b X
     by_cases bn:b=F
     ·subst bn
      exact go _ (h.1 rfl) (st.set X) (V.set X) (by rw[bq J ah st.env X];simp)
     ·have bm:b= !F:=by cases b<;>cases F<;>simp_all
      subst bm
      exact skip _ (h.2 rfl) (st.set X) (V.set X) (by rw[bq J ah st.env X];cases F<;>rfl)
    ·rename_i X
     exact skip _ h st V (cf J ah st.env X)
    ·exact h.elim
end
end Go.Av
