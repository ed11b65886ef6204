/-
  ABSTRACT VALUES, 15b: a region that draws, in an order of one's own: what stands fast may be loaded first.
-/
import Derived.Test.YtppjieiiibgagaaGreatDoorQXAv15
set_option linter.all false
namespace Go.Av
open Go Go.RowKit List
section
variable {G:Glob} {P:Program} {ρ:Store} {ws:World} {σs:Store} {n:Nat}
def mK {D:SOp} {env:Env} {σ:Store} {K:AV->Store->Prop} (h:D.slot=true):aop G P D env σ K=aq G D env σ λr=>K r σ:=by
 cases D<;>first
  |rfl
  |(exact absurd h (by simp[SOp.slot]))
def gJ {op:Op} {E:SOp} (D:ci P op=some E) (h:E.slot=true):isLoad op=false:=by
 cases op with
 |load t x=>
  have D:dU P t x=some E:=D;unfold dU at D;split at D
  ·split at D
   ·cases D;exact absurd h (by simp[SOp.slot])
   ·cases D
  ·cases D
 |_=>rfl
def cl (σs:Store) (ws:World) (w':World):Prop:=∀a v,ws.cell? a=some v->¬Mut σs a.block a.off->w'.cell? a=some v
def cn (ρ:Store) (ws:World) (σs:Store) (D:List Nat) (env:Env) (a:Act):Prop:=∀j,D.contains j=true->Rep (σs++ρ) ws (env.get j) (a.tmps.getD j undef)
def ed {F:Nat->Bool} {ops:Array Oper} {o:Oper} {s:SOper} (h:eZ P n F ops o=some s):
  ∃D g,(ci P o.op=some D\/D= .raw o.op\/∃e x m,o.op= .box e x/\bC P e=some m/\D= .boxR m (SOpd.of x))/\fc ops o.guard=some g/\d7 n o.dst=true/\s=⟨o.dst,g,D⟩:=by
 have N:cI P n F ops (o::[])=some [s]:=by simp[cI,h]
 obtain⟨D,g,rest,I,J,M,O,E⟩:=eG N
 injection E with E _
 exact⟨D,g,I,J,M,E⟩
def put_get {env:Env} {a:Act} {d:Option Nat} {r:AV} {v:Value} {j:Nat} (E:d7 n d=true) (F:n<=a.tmps.size):
  (d=some j/\(env.put d r).get j=r/\(a.put d v).tmps.getD j undef=v)\/(d≠some j/\(env.put d r).get j=env.get j/\(a.put d v).tmps.getD j undef=a.tmps.getD j undef):=by
 cases d with
 |none=>exact .inr ⟨by simp,rfl,rfl⟩
 |some d=>
  simp only[d7,decide_eq_true_eq]at E;simp only[Env.put,Act.put,sA];by_cases D:d=j
  ·subst D;left;refine⟨rfl,by simp,?_⟩;rw[Array.getD_eq_getD_getElem?,Array.getElem?_setIfInBounds];simp[show d<a.tmps.size by omega]
  ·right;refine⟨by simpa using D,by simp[D],?_⟩;rw[Array.getD_eq_getD_getElem?,Array.getD_eq_getD_getElem?,Array.getElem?_setIfInBounds];simp[D]
def cn.put {D:List Nat} {env:Env} {a:Act} {d:Option Nat} {r:AV} {v:Value} {F:Bool} (h:cn ρ ws σs D env a) (O:d7 n d=true) (V:n<=a.tmps.size)
  (T:F=true->Rep (σs++ρ) ws r v):cn ρ ws σs (cr d D F) (env.put d r) (a.put d v):=by
 intro j E
 rcases put_get (env:=env) (a:=a) (r:=r) (v:=v) (j:=j) O V with⟨I,J,M⟩|⟨I,J,M⟩
 ·subst I
  rw[J,M]
  cases F with
  |true=>exact T rfl
  |false=>simp[cr]at E
 ·rw[J,M]
  refine h j ?_
  cases d with
  |none=>exact E
  |some d=>
   have N:¬j=d:=λe=>I (by rw[e])
   cases F with
   |true=>simpa[cr,N]using E
   |false=>simp[cr]at E;simpa using E.1
def cn.set {D:List Nat} {env:Env} {a:Act} {j:Nat} {b:Bool} (h:cn ρ ws σs D env a) (E:env.get j= .bool b):cn ρ ws σs D (env.set j (.bool b)) a:=by
 intro i hi;rw[sA];by_cases e:j=i
 ·subst e;rw[←E];simpa using h j hi
 ·simpa[e]using h i hi
def pa {t:TypeId} {d:TypeDesc} {m:Nat} {K:AV->Prop} {cs:List AV} {D:Addr} (J:P.underlying t=some d) (hn:bC P t=some m) (F:(aggD d||m==1)=true) (T:RepAt (σs++ρ) ws D 0 cs)
  (h:fR (aggD d) m cs K):∃r v,K r/\Rep (σs++ρ) ws r v/\∀w',cl σs ws w'->(loadVar t D).run P w'= .ok v w':=by
 obtain⟨vs,V,N,l3,l4⟩:=jR T m h.1
 have X:∀j v,vs[j]? =some v->∀w',cl σs ws w'->w'.cell? (D.add j)=some v:=by
  intro j v E w' M
  have hj:j<cs.length:=by
   have:=(List.getElem?_eq_some_iff.1 E).1;have:=h.1;omega
  obtain⟨u,⟨J,O⟩,_,_⟩:=T.get j hj;rw[Nat.zero_add]at J O;refine M _ _ (l4 j v E) λI=>O (Mut.append.2 (.inl I))
 refine⟨_,if aggD d then .agg vs.toArray else vs.headD undef,h.2,?_,λw' M=>jY J hn F D vs V w' (λj v E=>X j v E w' M)⟩
 cases Z:aggD d with
 |true=>simp only[if_true,Rep];exact⟨vs.toArray,rfl,by simpa using l3,by simpa using N⟩
 |false=>
  simp[Z]at F;subst F
  match vs,V with
  |[v],_=>
   match cs,h.1 with
   |c::cs,_=>
    simp only[take_succ_cons,take_zero,RepL]at N;obtain⟨u,us,e,Y,_⟩:=N;simp only[List.cons.injEq]at e;simp only[Bool.false_eq_true,if_false,headD_cons];rw[e.1];exact Y
def lq {off:Nat} {x:AV} {K:AV->Prop} (h:dG off x K):∃R,K R/\∀K':AV->Prop,K' R->dG off x K':=by
 unfold dG at h;split at h
 ·exact⟨_,h,λK' D=>D⟩
 ·exact⟨_,h,λK' D=>D⟩
 ·exact h.elim
def ll {I:Nat->Bool} {ops:Array Oper} {D:Array Bool} {F E:List Nat} {i j:Nat} {J:SOper} (h:iy P n I ops D F i=some (j,J,E)):i=j:=by
 unfold iy at h;split at h
 ·cases h
 split at h
 ·cases h
 split at h
 rotate_left
 ·cases h
 split at h
 ·split at h
  ·cases h;rfl
  ·cases h
 ·split at h
  ·split at h
   ·split at h
    ·cases h;rfl
    ·cases h
   ·cases h
  ·cases h
 ·split at h
  ·cases h;rfl
  ·cases h
def fE {ro:Nat->Bool} {ops:Array Oper} {Q:Exit->Act->World->Prop} {K:Env->Store->Prop} (ac:Region.noSelect ops=true) (hQ:∀c a w,¬Q (.panic c) a w)
  (hK:∀env σ a w,K env σ->St G ρ ws σs n env σ a w->Q .normal a w) (bk:Sat G (σs++ρ) ws):
  ∀(f:Nat) (D:Array Bool) (F:List Nat) (sl:List SOper) (env:Env) (σ:Store) (a:Act) (w:World),mz P n ro ops f D F=some sl->
   srun G P sl env σ K->St G ρ ws σs n env σ a w->cn ρ ws σs F env a->wpAnyH P .any ops Q (cl σs ws) f D a w
 |0,D,F,sl,env,σ,a,w,hd,h,st,T=>by
  simp only[mz]at hd;split at hd
  ·rename_i J
   cases hd
   exact⟨by simpa using J,hK _ _ _ _ h st⟩
  ·cases hd
 |f+1,D,F,sl,env,σ,a,w,hd,h,st,T=>by
  have al:∀{env σ a w},St G ρ ws σs n env σ a w->cl σs ws w:=λst ad v hv hm=>(st.ev.cell ad v hv hm).1;simp only[mz]at hd;split at hd
  ·rename_i J
   cases hd
   exact wpAnyH_done (by simpa using J) (hK _ _ _ _ h st) _
  rename_i ds;split at hd
  ·
   rename_i i so aw d2;obtain⟨rest,Y,rfl⟩:=Option.map_eq_some_iff.1 hd;obtain⟨i',bd,O⟩:=exists_of_findSome?_eq_some d2;obtain rfl:i'=i:=ll O
   have cm:(Region.ready .any ops D).contains i'=true:=by simpa using bd
   unfold iy at O;split at O
   ·cases O
   rename_i o ho;split at O
   ·cases O
   rename_i s0 bx;obtain⟨N,g,e1,e2,e3,rfl⟩:=ed bx;split at O
   rotate_left
   ·cases O
   rename_i bb;have take:∀(bh:SOp) (kp:Bool),so=⟨o.dst,g,bh⟩->aw=cr o.dst F kp->
     (∀env,(∀j,Rep (σ++ρ) w (env.get j) (a.tmps.getD j undef))->cn ρ ws σs F env a->aop G P bh env σ (λr σ'=>srun G P rest (env.put o.dst r) σ' K)->
      ∃r u,srun G P rest (env.put o.dst r) σ K/\Rep (σ++ρ) w r u/\(kp=true->Rep (σs++ρ) ws r u)/\∀w',cl σs ws w'->(execOp a.eval o).run P w'= .ok (.value u) w')->
     wpAnyH P .any ops Q (cl σs ws) (f+1) D a w:=by
    intro bh kp e4 e5 be
    subst e4 e5
    have go:∀env,aop G P bh env σ (λr σ'=>srun G P rest (env.put o.dst r) σ' K)->St G ρ ws σs n env σ a w->cn ρ ws σs F env a->Region.wanted o (yielded ops a.tmps)=true->
      wpAnyH P .any ops Q (cl σs ws) (f+1) D a w:=by
     intro env h st T hw
     obtain⟨r,u,hk,J,bs,M⟩:=be env st.env T h
     exact wpAnyH_take ho ac bb cm (λc a w h=>(hQ _ _ _ h).elim) (.inl ⟨hw,M⟩) (al st)
      (fE ac hQ hK bk f _ _ rest _ _ _ _ Y hk (st.put e3 st.sat (Ev.refl σ w) J) (T.put e3 st.size bs))
    have skip:∀env,srun G P rest (env.put o.dst aG) σ K->St G ρ ws σs n env σ a w->cn ρ ws σs F env a->Region.wanted o (yielded ops a.tmps)=false->
      wpAnyH P .any ops Q (cl σs ws) (f+1) D a w:=λenv h st T hw=>
     wpAnyH_take ho ac bb cm (λc a w h=>(hQ _ _ _ h).elim) (.inr ⟨hw,rfl⟩) (al st)
      (fE ac hQ hK bk f _ _ rest _ _ _ _ Y h (st.put e3 st.sat (Ev.refl σ w) (cJ _ w)) (T.put e3 st.size λ_=>cJ _ _))
    cases I:o.guard with
    |none=>
     rw[I]at e2
     cases e2
     exact go env h st T (dj I)
    |some jb=>
     obtain⟨j,E⟩:=jb;rw[I]at e2;obtain⟨d,ah,rfl⟩:=bV e2;have h:gd (env.get d) E (aop G P bh (env.set d (.bool E)) σ λr σ'=>srun G P rest ((env.set d (.bool E)).put o.dst r) σ' K)
      (srun G P rest ((env.set d (.bool (!E))).put o.dst aG) σ K) (srun G P rest (env.put o.dst aG) σ K):=h
     unfold gd at h;split at h
     ·rename_i b V;by_cases bo:b=E
      ·subst bo;exact go _ (h.1 rfl) (st.set V) (T.set V) (by rw[bN I ah st.env V];simp)
      ·have bn:b= !E:=by cases b<;>cases E<;>simp_all
       subst bn;exact skip _ (h.2 rfl) (st.set V) (T.set V) (by rw[bN I ah st.env V];cases E<;>rfl)
     ·rename_i V;exact skip _ h st T (cS I ah st.env V)
     ·exact h.elim
   have plain:N.slot=true->so=⟨o.dst,g,N⟩->aw=cr o.dst F false->wpAnyH P .any ops Q (cl σs ws) (f+1) D a w:=by
    intro Z e4 e5
    have e1:ci P o.op=some N:=e1.resolve_right λe=>by
     rcases e with e|⟨_,_,_,_,_,e⟩<;>(rw[e]at Z;exact absurd Z (by simp[SOp.slot]))
    refine take N false e4 e5 λenv hE X h=>?_;rw[mK Z]at h;obtain⟨r,u,hk,J,M⟩:=d4 rfl e1 rfl st.sat hE h;exact⟨r,u,hk,J,(λc=>by cases c),λw' _=>M w' (λc=>by rw[gJ e1 Z]at c;cases c)⟩
   split at O
   ·
    rename_i t p k be;split at O
    rotate_left
    ·cases O
    rename_i Z
    cases O
    have Z:N.slot=true:=Z
    have e1:ci P o.op=some N:=e1.resolve_right λe=>by
     rcases e with e|⟨_,_,_,_,_,e⟩<;>(rw[e]at Z;exact absurd Z (by simp[SOp.slot]))
    have aa:cb P t (.tmp p) k=some N:=by rw[be]at e1;exact e1
    obtain⟨off,ch⟩:∃off,N= .fieldA off (.t p):=by
     unfold cb at aa;split at aa
     ·split at aa
      ·split at aa
       ·cases aa;exact⟨_,rfl⟩
       ·cases aa
      ·cases aa
     ·cases aa
    subst ch;refine take (.fieldA off (.t p)) (F.contains p) rfl rfl λenv hE X h=>?_;have h:dG off (env.get p) (λr=>srun G P rest (env.put o.dst r) σ K):=h;obtain⟨R,cw,hR⟩:=lq h;obtain⟨r,u,hk,J,M⟩:=d4 (env:=env) (K:=λr=>r=R) rfl e1 rfl st.sat hE (show dG off (env.get p) (λr=>r=R)from hR (λr=>r=R) rfl);subst hk;have bm:∀w',(execOp a.eval o).run P w'= .ok (.value u) w':=λw'=>M w' (λc=>by rw[gJ e1 rfl]at c;cases c);refine⟨r,u,cw,J,λhp=>?_,λw' _=>bm w'⟩
    have cp:∀j,Rep (σs++ρ) ws (Env.get [(p,env.get p)] j) (a.tmps.getD j undef):=by
     intro j;simp only[Env.get];split
     ·rename_i e;subst e;exact X _ hp
     ·simp only[Rep]
    obtain⟨r2,u2,d3,dc,bw⟩:=d4 (env:=[(p,env.get p)]) (K:=λr'=>r'=r) rfl e1 (rfl:σs++ρ=σs++ρ) bk cp (by
     show dG off (Env.get [(p,env.get p)] p) (λr'=>r'=r)
     simp only[Env.get,if_true]
     exact hR (λr'=>r'=r) rfl)
    subst d3;have:=bw w (λc=>by rw[gJ e1 rfl]at c;cases c);rw[bm w]at this
    injection this with this _
    injection this with this
    rw[this];exact dc
   ·
    rename_i t p be;split at O
    rotate_left
    ·cases O
    rename_i hp;split at O
    rotate_left
    ·cases O
    rename_i d m hu hm;split at O
    rotate_left
    ·cases O
    rename_i h1
    cases O
    refine take (.loadF (aggD d) m (.t p)) false rfl rfl λenv hE X h=>?_;have h:refX (env.get p) λcs=>fR (aggD d) m cs (λr=>srun G P rest (env.put o.dst r) σ K):=h;unfold refX at h;split at h
    rotate_left
    ·exact h.elim
    rename_i cs d1;have J:=X p hp;rw[d1]at J;simp only[Rep]at J;obtain⟨ad,d0,dd⟩:=J;obtain⟨r,v,hk,an,M⟩:=pa hu hm h1 dd h;refine⟨r,v,hk,Rep.ev st.ev _ _ an,(λc=>by cases c),λw' hw=>?_⟩;have e3:a.eval (.tmp p)= .pointer (some ad):=d0;simp[execOp,be,Instr.loadAt,e3,Instr.sureAddr,M w' hw]
   ·split at O
    rotate_left
    ·cases O
    rename_i Z
    cases O
    exact plain Z rfl rfl
  ·
   split at hd
   rotate_left
   ·cases hd
   rename_i i bs;split at hd
   rotate_left
   ·cases hd
   rename_i s0 dl;obtain⟨rest,Y,rfl⟩:=Option.map_eq_some_iff.1 hd;obtain⟨o,ho,bx⟩:=Option.bind_eq_some_iff.1 dl;obtain⟨N,g,e1,e2,e3,rfl⟩:=ed bx;refine wpAnyH_all bs (by simp) λi' bd=>?_
   have bd:i'=i:=by simpa using bd
   subst bd
   have next:∀env σ a w,srun G P rest env σ K->St G ρ ws σs n env σ a w->cn ρ ws σs (cr o.dst F false) env a->cl σs ws w/\wpAnyH P .any ops Q (cl σs ws) f (D.setIfInBounds i' true) a w:=
    λenv σ a w h st T=>⟨al st,fE ac hQ hK bk f _ _ rest _ _ _ _ Y h st T⟩
   have go:∀env,aop G P N env σ (λr σ'=>srun G P rest (env.put o.dst r) σ' K)->St G ρ ws σs n env σ a w->cn ρ ws σs F env a->Region.wanted o (yielded ops a.tmps)=true->
     wpOp P ops Q i' (λa' w'=>cl σs ws w'/\wpAnyH P .any ops Q (cl σs ws) f (D.setIfInBounds i' true) a' w') a w:=by
    intro env h st T hw
    unfold wpOp
    simp only[ho]
    rw[if_pos hw]
    refine .inl ?_
    have gp:∀{r v},cn ρ ws σs (cr o.dst F false) (env.put o.dst r) (a.put o.dst v):=T.put e3 st.size (λc=>by cases c)
    rcases e1 with e1|e|⟨t,x,m,V,hm,e⟩
    ·exact ik rfl e1 st.sat st.env h λv r σ' w' hk Z he J=>next _ _ _ _ hk (st.put e3 Z he J) gp
    ·rw[e]at h
     obtain⟨v,w',r,σ',J,hk,Z,he,an⟩:=h ρ w a o rfl st.sat st.env
     rcases J with J|⟨J,rfl⟩
     ·exact ca J (next _ _ _ _ hk (st.put e3 Z he an) gp)
     ·exact fu J (next _ _ _ _ hk (st.put e3 Z he an) gp)
    ·rw[e]at h
     exact oh (n:=m) (K:=λr σ'=>srun G P rest (env.put o.dst r) σ' K) V st.sat st.env h λv r σ' w' hk Z he J=>next _ _ _ _ hk (st.put e3 Z he J) gp
   have skip:∀env,srun G P rest (env.put o.dst aG) σ K->St G ρ ws σs n env σ a w->cn ρ ws σs F env a->Region.wanted o (yielded ops a.tmps)=false->
     wpOp P ops Q i' (λa' w'=>cl σs ws w'/\wpAnyH P .any ops Q (cl σs ws) f (D.setIfInBounds i' true) a' w') a w:=by
    intro env h st T hw
    unfold wpOp
    simp only[ho,hw]
    exact next _ _ _ _ h (st.put e3 st.sat (Ev.refl σ w) (cJ _ w)) (T.put e3 st.size (λc=>by cases c))
   cases I:o.guard with
   |none=>
    rw[I]at e2
    cases e2
    exact go env h st T (dj I)
   |some jb=>
    obtain⟨j,E⟩:=jb;rw[I]at e2;obtain⟨d,ah,rfl⟩:=bV e2;have h:gd (env.get d) E (aop G P N (env.set d (.bool E)) σ λr σ'=>srun G P rest ((env.set d (.bool E)).put o.dst r) σ' K)
     (srun G P rest ((env.set d (.bool (!E))).put o.dst aG) σ K) (srun G P rest (env.put o.dst aG) σ K):=h
    unfold gd at h;split at h
    ·rename_i b V;by_cases bo:b=E
     ·subst bo;exact go _ (h.1 rfl) (st.set V) (T.set V) (by rw[bN I ah st.env V];simp)
     ·have bn:b= !E:=by cases b<;>cases E<;>simp_all
      subst bn;exact skip _ (h.2 rfl) (st.set V) (T.set V) (by rw[bN I ah st.env V];cases E<;>rfl)
    ·rename_i V;exact skip _ h st T (cS I ah st.env V)
    ·exact h.elim
def pu {env:Env} {σ:Store} {K:Env->Store->Prop}:∀{l:List (Option DT)} {t:DT},allD l=some t->trun G P t env σ K->∀x∈l,∃E,x=some E/\trun G P E env σ K
 |[],_,h,_,_,_=>by cases h
 |[y],t,h,hr,x,D=>by
  have D:x=y:=by simpa using D
  subst D;exact⟨t,h,hr⟩
 |y::z::l,t,h,hr,x,D=>by
  unfold allD at h;simp only[]at h;split at h
  ·rename_i a b F
   cases h
   rcases mem_cons.1 D with rfl|D
   ·exact⟨a,rfl,hr.1⟩
   ·exact pu F hr.2 x D
  ·cases h
def fJ {ro:Nat->Bool} {ops:Array Oper} {Q:Exit->Act->World->Prop} {K:Env->Store->Prop} (ac:Region.noSelect ops=true) (hQ:∀c a w,¬Q (.panic c) a w)
  (hK:∀env σ a w,K env σ->St G ρ ws σs n env σ a w->Q .normal a w) (bh:Sat G (σs++ρ) ws):
  ∀(f:Nat) (D:Array Bool) (F:List Nat) (sl:DT) (env:Env) (σ:Store) (a:Act) (w:World),mb P n ro ops f D F=some sl->
   trun G P sl env σ K->St G ρ ws σs n env σ a w->cn ρ ws σs F env a->wpAnyH P .any ops Q (cl σs ws) f D a w
 |0,D,F,sl,env,σ,a,w,hd,h,st,T=>by
  simp only[mb]at hd;split at hd
  ·rename_i J
   cases hd
   exact⟨by simpa using J,hK _ _ _ _ h st⟩
  ·cases hd
 |f+1,D,F,sl,env,σ,a,w,hd,h,st,T=>by
  have al:∀{env σ a w},St G ρ ws σs n env σ a w->cl σs ws w:=λst ad v hv hm=>(st.ev.cell ad v hv hm).1;simp only[mb]at hd;split at hd
  ·rename_i J
   cases hd
   exact wpAnyH_done (by simpa using J) (hK _ _ _ _ h st) _
  rename_i dc;split at hd
  ·
   rename_i i so aw d2;obtain⟨rest,Y,rfl⟩:=Option.map_eq_some_iff.1 hd;obtain⟨i',bo,O⟩:=exists_of_findSome?_eq_some d2;obtain rfl:i'=i:=ll O
   have cm:(Region.ready .any ops D).contains i'=true:=by simpa using bo
   unfold iy at O;split at O
   ·cases O
   rename_i o ho;split at O
   ·cases O
   rename_i s0 bx;obtain⟨N,g,e1,e2,e3,rfl⟩:=ed bx;split at O
   rotate_left
   ·cases O
   rename_i bb;have take:∀(be:SOp) (kp:Bool),so=⟨o.dst,g,be⟩->aw=cr o.dst F kp->
     (∀env,(∀j,Rep (σ++ρ) w (env.get j) (a.tmps.getD j undef))->cn ρ ws σs F env a->aop G P be env σ (λr σ'=>trun G P rest (env.put o.dst r) σ' K)->
      ∃r u,trun G P rest (env.put o.dst r) σ K/\Rep (σ++ρ) w r u/\(kp=true->Rep (σs++ρ) ws r u)/\∀w',cl σs ws w'->(execOp a.eval o).run P w'= .ok (.value u) w')->
     wpAnyH P .any ops Q (cl σs ws) (f+1) D a w:=by
    intro be kp e4 e5 bd
    subst e4 e5
    have go:∀env,aop G P be env σ (λr σ'=>trun G P rest (env.put o.dst r) σ' K)->St G ρ ws σs n env σ a w->cn ρ ws σs F env a->Region.wanted o (yielded ops a.tmps)=true->
      wpAnyH P .any ops Q (cl σs ws) (f+1) D a w:=by
     intro env h st T hw
     obtain⟨r,u,hk,J,ds,M⟩:=bd env st.env T h
     exact wpAnyH_take ho ac bb cm (λc a w h=>(hQ _ _ _ h).elim) (.inl ⟨hw,M⟩) (al st)
      (fJ ac hQ hK bh f _ _ rest _ _ _ _ Y hk (st.put e3 st.sat (Ev.refl σ w) J) (T.put e3 st.size ds))
    have skip:∀env,trun G P rest (env.put o.dst aG) σ K->St G ρ ws σs n env σ a w->cn ρ ws σs F env a->Region.wanted o (yielded ops a.tmps)=false->
      wpAnyH P .any ops Q (cl σs ws) (f+1) D a w:=λenv h st T hw=>
     wpAnyH_take ho ac bb cm (λc a w h=>(hQ _ _ _ h).elim) (.inr ⟨hw,rfl⟩) (al st)
      (fJ ac hQ hK bh f _ _ rest _ _ _ _ Y h (st.put e3 st.sat (Ev.refl σ w) (cJ _ w)) (T.put e3 st.size λ_=>cJ _ _))
    cases I:o.guard with
    |none=>
     rw[I]at e2
     cases e2
     exact go env h st T (dj I)
    |some jb=>
     obtain⟨j,E⟩:=jb;rw[I]at e2;obtain⟨d,ah,rfl⟩:=bV e2;have h:gd (env.get d) E (aop G P be (env.set d (.bool E)) σ λr σ'=>trun G P rest ((env.set d (.bool E)).put o.dst r) σ' K)
      (trun G P rest ((env.set d (.bool (!E))).put o.dst aG) σ K) (trun G P rest (env.put o.dst aG) σ K):=h
     unfold gd at h;split at h
     ·rename_i b V;by_cases bn:b=E
      ·subst bn;exact go _ (h.1 rfl) (st.set V) (T.set V) (by rw[bN I ah st.env V];simp)
      ·have bm:b= !E:=by cases b<;>cases E<;>simp_all
       subst bm;exact skip _ (h.2 rfl) (st.set V) (T.set V) (by rw[bN I ah st.env V];cases E<;>rfl)
     ·rename_i V;exact skip _ h st T (cS I ah st.env V)
     ·exact h.elim
   have plain:N.slot=true->so=⟨o.dst,g,N⟩->aw=cr o.dst F false->wpAnyH P .any ops Q (cl σs ws) (f+1) D a w:=by
    intro Z e4 e5
    have e1:ci P o.op=some N:=e1.resolve_right λe=>by
     rcases e with e|⟨_,_,_,_,_,e⟩<;>(rw[e]at Z;exact absurd Z (by simp[SOp.slot]))
    refine take N false e4 e5 λenv hE X h=>?_;rw[mK Z]at h;obtain⟨r,u,hk,J,M⟩:=d4 rfl e1 rfl st.sat hE h;exact⟨r,u,hk,J,(λc=>by cases c),λw' _=>M w' (λc=>by rw[gJ e1 Z]at c;cases c)⟩
   split at O
   ·
    rename_i t p k bd;split at O
    rotate_left
    ·cases O
    rename_i Z
    cases O
    have Z:N.slot=true:=Z
    have e1:ci P o.op=some N:=e1.resolve_right λe=>by
     rcases e with e|⟨_,_,_,_,_,e⟩<;>(rw[e]at Z;exact absurd Z (by simp[SOp.slot]))
    have aa:cb P t (.tmp p) k=some N:=by rw[bd]at e1;exact e1
    obtain⟨off,ch⟩:∃off,N= .fieldA off (.t p):=by
     unfold cb at aa;split at aa
     ·split at aa
      ·split at aa
       ·cases aa;exact⟨_,rfl⟩
       ·cases aa
      ·cases aa
     ·cases aa
    subst ch;refine take (.fieldA off (.t p)) (F.contains p) rfl rfl λenv hE X h=>?_;have h:dG off (env.get p) (λr=>trun G P rest (env.put o.dst r) σ K):=h;obtain⟨R,cw,hR⟩:=lq h;obtain⟨r,u,hk,J,M⟩:=d4 (env:=env) (K:=λr=>r=R) rfl e1 rfl st.sat hE (show dG off (env.get p) (λr=>r=R)from hR (λr=>r=R) rfl);subst hk;have bk:∀w',(execOp a.eval o).run P w'= .ok (.value u) w':=λw'=>M w' (λc=>by rw[gJ e1 rfl]at c;cases c);refine⟨r,u,cw,J,λhp=>?_,λw' _=>bk w'⟩
    have cp:∀j,Rep (σs++ρ) ws (Env.get [(p,env.get p)] j) (a.tmps.getD j undef):=by
     intro j;simp only[Env.get];split
     ·rename_i e;subst e;exact X _ hp
     ·simp only[Rep]
    obtain⟨r2,u2,d3,dd,bs⟩:=d4 (env:=[(p,env.get p)]) (K:=λr'=>r'=r) rfl e1 (rfl:σs++ρ=σs++ρ) bh cp (by
     show dG off (Env.get [(p,env.get p)] p) (λr'=>r'=r)
     simp only[Env.get,if_true]
     exact hR (λr'=>r'=r) rfl)
    subst d3;have:=bs w (λc=>by rw[gJ e1 rfl]at c;cases c);rw[bk w]at this
    injection this with this _
    injection this with this
    rw[this];exact dd
   ·
    rename_i t p bd;split at O
    rotate_left
    ·cases O
    rename_i hp;split at O
    rotate_left
    ·cases O
    rename_i d m hu hm;split at O
    rotate_left
    ·cases O
    rename_i h1
    cases O
    refine take (.loadF (aggD d) m (.t p)) false rfl rfl λenv hE X h=>?_;have h:refX (env.get p) λcs=>fR (aggD d) m cs (λr=>trun G P rest (env.put o.dst r) σ K):=h;unfold refX at h;split at h
    rotate_left
    ·exact h.elim
    rename_i cs d1;have J:=X p hp;rw[d1]at J;simp only[Rep]at J;obtain⟨ad,d0,dl⟩:=J;obtain⟨r,v,hk,an,M⟩:=pa hu hm h1 dl h;refine⟨r,v,hk,Rep.ev st.ev _ _ an,(λc=>by cases c),λw' hw=>?_⟩;have e3:a.eval (.tmp p)= .pointer (some ad):=d0;simp[execOp,bd,Instr.loadAt,e3,Instr.sureAddr,M w' hw]
   ·split at O
    rotate_left
    ·cases O
    rename_i Z
    cases O
    exact plain Z rfl rfl
  ·
   refine wpAnyH_all rfl (λe=>dc (by simp[e])) λi' bo=>?_;obtain⟨t',bw,h⟩:=pu hd h _ (mem_map_of_mem bo);split at bw
   rotate_left
   ·cases bw
   rename_i s0 e0;obtain⟨rest,Y,rfl⟩:=Option.map_eq_some_iff.1 bw;obtain⟨o,ho,bx⟩:=Option.bind_eq_some_iff.1 e0;obtain⟨N,g,e1,e2,e3,rfl⟩:=ed bx
   have next:∀env σ a w,trun G P rest env σ K->St G ρ ws σs n env σ a w->cn ρ ws σs (cr o.dst F false) env a->cl σs ws w/\wpAnyH P .any ops Q (cl σs ws) f (D.setIfInBounds i' true) a w:=
    λenv σ a w h st T=>⟨al st,fJ ac hQ hK bh f _ _ rest _ _ _ _ Y h st T⟩
   have go:∀env,aop G P N env σ (λr σ'=>trun G P rest (env.put o.dst r) σ' K)->St G ρ ws σs n env σ a w->cn ρ ws σs F env a->Region.wanted o (yielded ops a.tmps)=true->
     wpOp P ops Q i' (λa' w'=>cl σs ws w'/\wpAnyH P .any ops Q (cl σs ws) f (D.setIfInBounds i' true) a' w') a w:=by
    intro env h st T hw
    unfold wpOp
    simp only[ho]
    rw[if_pos hw]
    refine .inl ?_
    have gp:∀{r v},cn ρ ws σs (cr o.dst F false) (env.put o.dst r) (a.put o.dst v):=T.put e3 st.size (λc=>by cases c)
    rcases e1 with e1|e|⟨t,x,m,V,hm,e⟩
    ·exact ik rfl e1 st.sat st.env h λv r σ' w' hk Z he J=>next _ _ _ _ hk (st.put e3 Z he J) gp
    ·rw[e]at h
     obtain⟨v,w',r,σ',J,hk,Z,he,an⟩:=h ρ w a o rfl st.sat st.env
     rcases J with J|⟨J,rfl⟩
     ·exact ca J (next _ _ _ _ hk (st.put e3 Z he an) gp)
     ·exact fu J (next _ _ _ _ hk (st.put e3 Z he an) gp)
    ·rw[e]at h
     exact oh (n:=m) (K:=λr σ'=>trun G P rest (env.put o.dst r) σ' K) V st.sat st.env h λv r σ' w' hk Z he J=>next _ _ _ _ hk (st.put e3 Z he J) gp
   have skip:∀env,trun G P rest (env.put o.dst aG) σ K->St G ρ ws σs n env σ a w->cn ρ ws σs F env a->Region.wanted o (yielded ops a.tmps)=false->
     wpOp P ops Q i' (λa' w'=>cl σs ws w'/\wpAnyH P .any ops Q (cl σs ws) f (D.setIfInBounds i' true) a' w') a w:=by
    intro env h st T hw
    unfold wpOp
    simp only[ho,hw]
    exact next _ _ _ _ h (st.put e3 st.sat (Ev.refl σ w) (cJ _ w)) (T.put e3 st.size (λc=>by cases c))
   cases I:o.guard with
   |none=>
    rw[I]at e2
    cases e2
    exact go env h st T (dj I)
   |some jb=>
    obtain⟨j,E⟩:=jb;rw[I]at e2;obtain⟨d,ah,rfl⟩:=bV e2;have h:gd (env.get d) E (aop G P N (env.set d (.bool E)) σ λr σ'=>trun G P rest ((env.set d (.bool E)).put o.dst r) σ' K)
     (trun G P rest ((env.set d (.bool (!E))).put o.dst aG) σ K) (trun G P rest (env.put o.dst aG) σ K):=h
    unfold gd at h;split at h
    ·rename_i b V;by_cases bn:b=E
     ·subst bn;exact go _ (h.1 rfl) (st.set V) (T.set V) (by rw[bN I ah st.env V];simp)
     ·have bm:b= !E:=by cases b<;>cases E<;>simp_all
      subst bm;exact skip _ (h.2 rfl) (st.set V) (T.set V) (by rw[bN I ah st.env V];cases E<;>rfl)
    ·rename_i V;exact skip _ h st T (cS I ah st.env V)
    ·exact h.elim
end
end Go.Av
