/-
  ABSTRACT VALUES, 15: a region; code; a function.
-/
import Derived.Test.YtnoakpkjccigoaaGreatDoorVXAv13toXAv14
namespace Go.Av
open Go Go.RowKit List
set_option linter.unusedSimpArgs false
set_option linter.unusedVariables false
theorem Env.get_set (v:AV) (d:Nat):∀(env:Env) (j:Nat),(env.set d v).get j=if d=j then v else env.get j
 |[],j=>by simp[Env.set,Env.get]
 |(k,x)::e,j=>by
  simp only[Env.set]
  by_cases E:k=d
  ·subst E
   simp only[if_true,Env.get]
   split<;>rfl
  ·simp only[E,if_false,Env.get,Env.get_set v d e j]
   by_cases D:k=j
   ·subst D
    have:¬d=k:=λe=>E e.symm
    simp[this]
   ·simp[D]
theorem Env.get_keep (ks:List Nat):∀(env:Env) (j:Nat),(env.keep ks).get j= .any\/(env.keep ks).get j=env.get j
 |[],j=>.inr rfl
 |(k,x)::e,j=>by
  simp only[Env.keep,filter_cons]
  by_cases E:ks.contains k=true
  ·simp only[E,if_true,Env.get]
   by_cases D:k=j
   ·simp[D]
   ·simp only[D,if_false];exact Env.get_keep ks e j
  ·simp only[E,Env.get]
   by_cases D:k=j
   ·left
    subst D
    have key:∀e:Env,Env.get (e.filter λp=>ks.contains p.1) k= .any:=by
     intro e
     induction e with
     |nil=>rfl
     |cons p e ih=>
      simp only[filter_cons]
      split
      ·rename_i I
       simp only[Env.get]
       split
       ·rename_i F;rw[F]at I;exact absurd I E
       ·exact ih
      ·exact ih
    exact key e
   ·simp only[D,if_false];exact Env.get_keep ks e j
structure St (G:Glob) (ρ:Store) (w0:World) (σ0:Store) (n:Nat) (env:Env) (σ:Store) (a:Act) (w:World):Prop where
 sat:Sat G (σ++ρ) w
 ev:Ev σ0 w0 σ w
 env:∀j,Rep (σ++ρ) w (env.get j) (a.tmps.getD j undef)
 size:n<=a.tmps.size
 defers:a.defers=[]
section
variable {G:Glob} {P:Program} {ρ:Store} {w0:World} {σ0:Store} {n:Nat}
theorem k8 (a:Act) (d:Option Tmp) (v:Value):(a.put d v).tmps.size=a.tmps.size:=by
 cases d<;>simp[Act.put]
theorem g8 (a:Act) (d:Option Tmp) (v:Value):(a.put d v).defers=a.defers:=by
 cases d<;>simp[Act.put]
theorem mg {τ:Store} {w:World} {env:Env} {a:Act} {d:Option Nat} {r:AV} {v:Value} (E:∀j,Rep τ w (env.get j) (a.tmps.getD j undef)) (F:dr n d=true) (J:n<=a.tmps.size)
  (I:Rep τ w r v):∀j,Rep τ w ((env.put d r).get j) ((a.put d v).tmps.getD j undef):=by
 intro j
 cases d with
 |none=>exact E j
 |some d=>
  simp only[dr,decide_eq_true_eq]at F
  simp only[Env.put,Act.put,Env.get_set]
  by_cases D:d=j
  ·subst D
   have:(a.tmps.setIfInBounds d v).getD d undef=v:=by
    rw[Array.getD_eq_getD_getElem?,Array.getElem?_setIfInBounds]
    simp[show d<a.tmps.size by omega]
   rw[this];simpa using I
  ·have:(a.tmps.setIfInBounds d v).getD j undef=a.tmps.getD j undef:=by
    rw[Array.getD_eq_getD_getElem?,Array.getD_eq_getD_getElem?,Array.getElem?_setIfInBounds]
    simp[D]
   rw[this];simpa[D]using E j
theorem mr {τ:Store} {w:World} {env:Env} {a:Act} {j:Nat} {b:Bool} (D:∀j,Rep τ w (env.get j) (a.tmps.getD j undef)) (E:env.get j= .bool b):
  ∀i,Rep τ w ((env.set j (.bool b)).get i) (a.tmps.getD i undef):=by
 intro i
 rw[Env.get_set]
 by_cases h:j=i
 ·subst h;rw[←E];simpa using D j
 ·simpa[h]using D i
theorem cg (τ:Store) (w:World):Rep τ w aC undef:=by
 simp only[aC,Rep];exact⟨#[],rfl,by simp[RepL]⟩
theorem cC {ops:Array Oper} {o:Oper} {tmps:Array Value} (h:o.guard=none):Region.wanted o (yielded ops tmps)=true:=by
 simp[Region.wanted,h]
theorem bE {τ:Store} {w:World} {env:Env} {ops:Array Oper} {o:Oper} {a:Act} {j d:Nat} {D b:Bool} (h:o.guard=some (j,D)) (N:(ops[j]?).bind (·.dst)=some d)
  (J:∀j,Rep τ w (env.get j) (a.tmps.getD j undef)) (M:env.get d= .bool b):Region.wanted o (yielded ops a.tmps)=(b==D):=by
 have E:=J d
 rw[M]at E
 simp only[Rep]at E
 have I:a.tmps[d]? =some (.bool b):=by
  rw[Array.getD_eq_getD_getElem?]at E
  cases F:a.tmps[d]? with
  |none=>rw[F]at E;simp[undef]at E
  |some x=>rw[F]at E;simp at E;rw[E]
 simp only[Region.wanted,h,yielded,N,Option.bind_some,I]
 cases b<;>cases D<;>rfl
theorem cr {τ:Store} {w:World} {env:Env} {ops:Array Oper} {o:Oper} {a:Act} {j d:Nat} {E:Bool} (h:o.guard=some (j,E)) (J:(ops[j]?).bind (·.dst)=some d)
  (F:∀j,Rep τ w (env.get j) (a.tmps.getD j undef)) (I:env.get d= .tup []):Region.wanted o (yielded ops a.tmps)=false:=by
 have D:=F d
 rw[I]at D
 simp only[Rep]at D
 obtain⟨vs,D,_⟩:=D
 simp only[Region.wanted,h,yielded,J,Option.bind_some]
 rw[Array.getD_eq_getD_getElem?]at D
 cases M:a.tmps[d]? with
 |none=>rfl
 |some x=>rw[M]at D;simp at D;subst D;rfl
theorem bI {ops:Array Oper} {j:Nat} {b:Bool} {g:Option (Nat×Bool)} (h:ej ops (some (j,b))=some g):∃d,(ops[j]?).bind (·.dst)=some d/\g=some (d,b):=by
 simp only[ej]at h
 obtain⟨d,D,rfl⟩:=Option.map_eq_some_iff.1 h
 exact⟨d,D,rfl⟩
theorem St.put {env:Env} {σ σ':Store} {a:Act} {w w':World} {d:Option Nat} {r:AV} {v:Value} (h:St G ρ w0 σ0 n env σ a w) (E:dr n d=true) (I:Sat G (σ'++ρ) w') (D:Ev σ w σ' w')
  (F:Rep (σ'++ρ) w' r v):St G ρ w0 σ0 n (env.put d r) σ' (a.put d v) w' where
 sat:=I
 ev:=h.ev.trans D
 env:=mg (λj=>Rep.ev D _ _ (h.env j)) E h.size F
 size:=by rw[k8];exact h.size
 defers:=by rw[g8];exact h.defers
theorem St.set {env:Env} {σ:Store} {a:Act} {w:World} {j:Nat} {b:Bool} (h:St G ρ w0 σ0 n env σ a w) (D:env.get j= .bool b):St G ρ w0 σ0 n (env.set j (.bool b)) σ a w:=
 {h with env:=mr h.env D}
theorem St.weak {env D:Env} {σ σ':Store} {a:Act} {w:World} (h:St G ρ w0 σ0 n env σ a w) (J:Weak G env σ D σ'):St G ρ w0 σ0 n D σ' a w:=by
 obtain⟨E,F,I⟩:=J ρ w a.tmps h.sat h.env
 exact{h with sat:=E,ev:=h.ev.trans F,env:=I}
theorem St.keep {env:Env} {σ:Store} {a:Act} {w:World} (ks:List Nat) (h:St G ρ w0 σ0 n env σ a w):St G ρ w0 σ0 n (env.keep ks) σ a w:=
 ⟨h.sat,h.ev,λj=>by
   rcases Env.get_keep ks env j with e|e
   ·rw[e];simp only[Rep]
   ·rw[e];exact h.env j,h.size,h.defers⟩
theorem dH {J:Nat->Bool} {ops:Array Oper} {o:Oper} {l:List Oper} {M:List SOper} (h:ci P n J ops (o::l)=some M):
  ∃E g rest,(bQ P o.op=some E\/E= .raw o.op\/∃e x m,o.op= .box e x/\bj P e=some m/\E= .boxR m (SOpd.of x))/\ej ops o.guard=some g/\dr n o.dst=true/\ci P n J ops l=some rest/\M=⟨o.dst,g,E⟩::rest:=by
 simp only[ci]at h
 split at h
 ·rename_i E I F T
  cases h
  unfold d9 at F
  split at F
  ·rename_i g N O
   cases F
   refine⟨_,g,I,?_,N,O,T,rfl⟩
   have D:∀y,y=(bQ P o.op).getD (.raw o.op)->(bQ P o.op=some y\/y= .raw o.op\/∃e x m,o.op= .box e x/\bj P e=some m/\y= .boxR m (SOpd.of x)):=by
    rintro y rfl
    cases bQ P o.op with
    |none=>exact .inr (.inl rfl)
    |some E=>exact .inl rfl
   unfold roBox
   split
   ·rename_i e x d X Y
    split
    ·split
     ·rename_i m V
      exact .inr (.inr ⟨e,x,m,X,V,rfl⟩)
     ·exact D _ rfl
    ·exact D _ rfl
   ·split
    ·exact .inr (.inl rfl)
    ·exact D _ rfl
   ·exact D _ rfl
  ·cases F
 ·cases h
theorem cP {ro:Nat->Bool} {ops:Array Oper} {Q:Exit->Act->World->Prop} {K:Env->Store->Prop} (I:∀env σ a w,K env σ->St G ρ w0 σ0 n env σ a w->Q .normal a w):
  ∀(l:List Oper) (sl:List SOper) (env:Env) (σ:Store) (a:Act) (w:World),ci P n ro ops l=some sl->srun G P sl env σ K->St G ρ w0 σ0 n env σ a w->wpList P ops Q l a w
 |[],sl,env,σ,a,w,ht,h,st=>by cases ht;exact I _ _ _ _ h st
 |o::l,sl,env,σ,a,w,ht,h,st=>by
  obtain⟨so,g,rest,e1,e2,O,T,rfl⟩:=dH ht
  have go:∀env,aop G P so env σ (λr σ'=>srun G P rest (env.put o.dst r) σ' K)->St G ρ w0 σ0 n env σ a w->o.wp P a w (wpList P ops Q l) Q:=λenv h st=>
   e1.elim (λe1=>gx rfl e1 st.sat st.env h λv r σ' w' M N J E=>cP I l rest _ _ _ _ T M (st.put O N J E)) λe=>by
    rcases e with e|⟨t,x,m,ho,hm,e⟩
    rotate_left
    ·rw[e]at h
     exact mR (n:=m) (K:=λr σ'=>srun G P rest (env.put o.dst r) σ' K) ho st.sat st.env h λv r σ' w' M N J E=>cP I l rest _ _ _ _ T M (st.put O N J E)
    rw[e]at h
    obtain⟨v,w',r,σ',E,M,N,J,F⟩:=h ρ w a o rfl st.sat st.env
    rcases E with E|⟨E,rfl⟩
    ·exact bF E (cP I l rest _ _ _ _ T M (st.put O N J F))
    ·exact eB E (cP I l rest _ _ _ _ T M (st.put O N J F))
  have skip:∀env,srun G P rest (env.put o.dst aC) σ K->St G ρ w0 σ0 n env σ a w->wpList P ops Q l (a.put o.dst undef) w:=λenv h st=>
   cP I l rest _ _ _ _ T h (st.put O st.sat (Ev.refl σ w) (cg _ w))
  cases Z:o.guard with
  |none=>
   rw[Z]at e2
   cases e2
   simp only[wpList]
   rw[if_pos (cC Z)]
   exact .inl (go env h st)
  |some jb=>
   obtain⟨j,D⟩:=jb
   rw[Z]at e2
   obtain⟨d,hd,rfl⟩:=bI e2
   have h:gd (env.get d) D (aop G P so (env.set d (.bool D)) σ λr σ'=>srun G P rest ((env.set d (.bool D)).put o.dst r) σ' K)
    (srun G P rest ((env.set d (.bool (!D))).put o.dst aC) σ K) (srun G P rest (env.put o.dst aC) σ K):=h
   unfold gd at h
   simp only[wpList]
   split at h
   ·rename_i b V
    rw[bE Z hd st.env V]
    by_cases Y:b=D
    ·subst Y
     simp only[BEq.rfl,if_true]
     exact .inl (go _ (h.1 rfl) (st.set V))
    ·have X:b= !D:=by cases b<;>cases D<;>simp_all
     have:(b==D)=false:=by simpa using Y
     simp only[this]
     exact skip _ (h.2 X) (st.set (by rw[V,X]))
   ·rename_i V
    rw[cr Z hd st.env V]
    exact skip _ h st
   ·exact h.elim
theorem Rep.rigid {τ:Store} {w:World} {r:AV} {u v:Value} (h:Rep τ w r u) (D:r.rigid=some v):u=v:=by
 cases r<;>simp only[AV.rigid]at D<;>first
  |(cases D;done)
  |(cases D;simpa only[Rep]using h)
theorem Rep.of_rigid {τ:Store} {w:World} {r:AV} {v:Value} (D:r.rigid=some v):Rep τ w r v:=by
 cases r<;>simp only[AV.rigid]at D<;>first
  |(cases D;done)
  |(cases D;simp only[Rep])
theorem Same.trans {w E w2:World} (h:Same w E) (k:Same E w2):Same w w2:=
 ⟨Nat.le_trans h.1 k.1,λb D=>(k.2 b (Nat.lt_of_lt_of_le D h.1)).trans (h.2 b D)⟩
def QC (G:Glob) (σ ρ:Store) (w w':World):Prop:=Sat G (σ++ρ) w'/\Ev σ w σ w'/\Same w w'
theorem nx {env:Env} {σ:Store} {a:Act} {w:World} {o:Oper} {c:Call} {f:Operand} {K:AV->Prop} (ho:o.op= .call c) (hc:c.callee= .value f)
  (hS:Sat G (σ++ρ) w) (N:∀j,Rep (σ++ρ) w (env.get j) (a.tmps.getD j undef))
  (h:scX ((SOpd.of f).eval G env) λv=>AQCall G P v ((c.args.toList.map SOpd.of).map (·.eval G env)) K):
  ∃r u,K r/\Rep (σ++ρ) w r u/\∀w',QC G σ ρ w w'->o.quietAt P a (QC G σ ρ w) w' u:=by
 have J:=ao (G:=G) hS N f
 unfold scX at h
 split at h
 ·rename_i v he
  rw[he]at J
  simp only[Rep]at J
  obtain⟨r,I,E,⟨k,first,cap,hv,⟨fn,T,V,X⟩,D⟩,M,hK⟩:=h
  subst hv
  obtain⟨u,O⟩:=Option.isSome_iff_exists.1 E
  refine⟨r,u,hK,Rep.of_rigid O,λw' Z=>?_⟩
  obtain⟨c1,c2,c3⟩:=Z
  have F:=run_call (P:=P) (w':=w') ho hc J T V X
  have Y:=lP (first:=first) (cap:=cap) (args:=c.args) c1 (λj=>Rep.ev c2 _ _ (N j)) M
  unfold Oper.quietAt
  rw[F]
  refine⟨rfl,?_⟩
  refine(D (σ++ρ) w' (first++c.args.map a.eval++cap) (by simpa using c1) Y).mono ?_
  rintro e ac ⟨v',r',σ',rfl,⟨rfl,rfl⟩,s1,ev,rr⟩
  refine⟨by rw[Rep.rigid rr O],by simpa using s1,c2.trans ?_,c3.trans ⟨ev.size,λb hb=>(ev.block b hb (by simp[Store.keys])).1⟩⟩
  have:=ev.frame (σ:=σ) (σr:=σ) (by intro p hp;simpa using hp)
  simpa using this
 ·exact h.elim
theorem mT {op:Op} (E:∀c,op≠ .call c) (f:SOpd) (args:List SOpd):bQ P op≠some (.call f args):=by
 intro D
 cases op with
 |call c=>exact E c rfl
 |_=>first
  |(cases D;done)
  |(simp only[bQ,da,dA,bM,cY,dw,dz,dE,eY,ee,cZ,fj]at D
    repeat' split at D
    all_goals simp_all)
theorem aqc_sound {env:Env} {σ:Store} {a:Act} {w:World} {o:Oper} {N:SOp} {K:AV->Prop} (D:bQ P o.op=some N) (T:Sat G (σ++ρ) w)
  (O:∀j,Rep (σ++ρ) w (env.get j) (a.tmps.getD j undef)) (h:aqc G P N env σ K):
  ∃r u,K r/\Rep (σ++ρ) w r u/\∀w',QC G σ ρ w w'->o.quietAt P a (QC G σ ρ w) w' u:=by
 have J:aq G N env σ K->∃r u,K r/\Rep (σ++ρ) w r u/\∀w',QC G σ ρ w w'->o.quietAt P a (QC G σ ρ w) w' u:=by
  intro h
  obtain⟨r,u,X,Y,M⟩:=dg rfl D rfl T O h
  refine⟨r,u,X,Y,λw' V=>?_⟩
  unfold Oper.quietAt
  rw[M w' (λ_=>V.2.2)]
  exact⟨rfl,rfl⟩
 by_cases F:∃f args,N= .call f args
 ·obtain⟨f,args,rfl⟩:=F
  cases I:o.op with
  |call c=>
   rw[I]at D
   have D:(match c.callee with
    | .builtin b=>bC P b c.args.toList c.argTypes.toList
    | .value f=>some (.call (SOpd.of f) (c.args.toList.map SOpd.of))
    | .invoke r name=>some (.invoke (SOpd.of r) name (c.args.toList.map SOpd.of)))=some (SOp.call f args):=D
   cases E:c.callee with
   |invoke r m=>rw[E]at D;cases D
   |value f'=>
    rw[E]at D
    cases D
    exact nx I E T O h
   |builtin b=>
    rw[E]at D
    have D:bC P b c.args.toList c.argTypes.toList=some (SOp.call f args):=D
    unfold bC at D
    split at D
    ·split at D<;>cases D
    ·split at D
     ·split at D
      ·split at D<;>cases D
      ·cases D
     ·cases D
    ·cases D
  |_=>exact absurd D (mT (λc e=>by rw[I]at e;cases e) f args)
 ·refine J ?_
  cases N<;>first
   |exact h
   |exact absurd ⟨_,_,rfl⟩ F
end
section
variable {G:Glob} {P:Program} {ρ:Store} {ws:World} {σs:Store} {n:Nat}
theorem j5 {D:SOp} {env:Env} {σ:Store} {K:AV->Store->Prop} (h:D.slot=true):aop G P D env σ K=aq G D env σ λr=>K r σ:=by
 cases D<;>first
  |rfl
  |(exact absurd h (by simp[SOp.slot]))
theorem fE {op:Op} {E:SOp} (D:bQ P op=some E) (h:E.slot=true):isLoad op=false:=by
 cases op with
 |load t x=>
  have D:da P t x=some E:=D
  unfold da at D
  split at D
  ·split at D
   ·cases D;exact absurd h (by simp[SOp.slot])
   ·cases D
  ·cases D
 |_=>rfl
def bS (σs:Store) (ws:World) (w':World):Prop:=∀a v,ws.cell? a=some v->¬Mut σs a.block a.off->w'.cell? a=some v
def bT (ρ:Store) (ws:World) (σs:Store) (good:List Nat) (env:Env) (a:Act):Prop:=∀j,good.contains j=true->Rep (σs++ρ) ws (env.get j) (a.tmps.getD j undef)
theorem dm {F:Nat->Bool} {ops:Array Oper} {o:Oper} {s:SOper} (h:d9 P n F ops o=some s):
  ∃D g,(bQ P o.op=some D\/D= .raw o.op\/∃e x m,o.op= .box e x/\bj P e=some m/\D= .boxR m (SOpd.of x))/\ej ops o.guard=some g/\dr n o.dst=true/\s=⟨o.dst,g,D⟩:=by
 have N:ci P n F ops (o::[])=some [s]:=by simp[ci,h]
 obtain⟨D,g,rest,I,J,M,O,E⟩:=dH N
 injection E with E _
 exact⟨D,g,I,J,M,E⟩
theorem put_get {env:Env} {a:Act} {d:Option Nat} {r:AV} {v:Value} {j:Nat} (E:dr n d=true) (F:n<=a.tmps.size):
  (d=some j/\(env.put d r).get j=r/\(a.put d v).tmps.getD j undef=v)\/(d≠some j/\(env.put d r).get j=env.get j/\(a.put d v).tmps.getD j undef=a.tmps.getD j undef):=by
 cases d with
 |none=>exact .inr ⟨by simp,rfl,rfl⟩
 |some d=>
  simp only[dr,decide_eq_true_eq]at E
  simp only[Env.put,Act.put,Env.get_set]
  by_cases D:d=j
  ·subst D
   left
   refine⟨rfl,by simp,?_⟩
   rw[Array.getD_eq_getD_getElem?,Array.getElem?_setIfInBounds]
   simp[show d<a.tmps.size by omega]
  ·right
   refine⟨by simpa using D,by simp[D],?_⟩
   rw[Array.getD_eq_getD_getElem?,Array.getD_eq_getD_getElem?,Array.getElem?_setIfInBounds]
   simp[D]
theorem bT.put {good:List Nat} {env:Env} {a:Act} {d:Option Nat} {r:AV} {v:Value} {E:Bool} (h:bT ρ ws σs good env a) (N:dr n d=true) (T:n<=a.tmps.size)
  (O:E=true->Rep (σs++ρ) ws r v):bT ρ ws σs (ca d good E) (env.put d r) (a.put d v):=by
 intro j D
 rcases put_get (env:=env) (a:=a) (r:=r) (v:=v) (j:=j) N T with⟨F,I,J⟩|⟨F,I,J⟩
 ·subst F
  rw[I,J]
  cases E with
  |true=>exact O rfl
  |false=>simp[ca]at D
 ·rw[I,J]
  refine h j ?_
  cases d with
  |none=>exact D
  |some d=>
   have M:¬j=d:=λe=>F (by rw[e])
   cases E with
   |true=>simpa[ca,M]using D
   |false=>simp[ca]at D;simpa using D.1
theorem bT.set {good:List Nat} {env:Env} {a:Act} {j:Nat} {b:Bool} (h:bT ρ ws σs good env a) (D:env.get j= .bool b):bT ρ ws σs good (env.set j (.bool b)) a:=by
 intro i hi
 rw[Env.get_set]
 by_cases e:j=i
 ·subst e;rw[←D];simpa using h j hi
 ·simpa[e]using h i hi
theorem od {t:TypeId} {d:TypeDesc} {m:Nat} {K:AV->Prop} {cs:List AV} {ad:Addr} (I:P.underlying t=some d) (hn:bj P t=some m) (E:(aggD d||m==1)=true) (O:RepAt (σs++ρ) ws ad 0 cs)
  (h:eV (aggD d) m cs K):∃r v,K r/\Rep (σs++ρ) ws r v/\∀w',bS σs ws w'->(loadVar t ad).run P w'= .ok v w':=by
 obtain⟨vs,T,M,l3,l4⟩:=iO O m h.1
 have V:∀j v,vs[j]? =some v->∀w',bS σs ws w'->w'.cell? (ad.add j)=some v:=by
  intro j v D w' J
  have Z:j<cs.length:=by
   have:=(List.getElem?_eq_some_iff.1 D).1
   have:=h.1
   omega
  obtain⟨u,⟨I,N⟩,_,_⟩:=O.get j Z
  rw[Nat.zero_add]at I N
  refine J _ _ (l4 j v D) λF=>N (Mut.append.2 (.inl F))
 refine⟨_,if aggD d then .agg vs.toArray else vs.headD undef,h.2,?_,λw' J=>iN I hn E ad vs T w' (λj v D=>V j v D w' J)⟩
 cases Y:aggD d with
 |true=>simp only[if_true,Rep];exact⟨vs.toArray,rfl,by simpa using l3,by simpa using M⟩
 |false=>
  simp[Y]at E
  subst E
  match vs,T with
  |[v],_=>
   match cs,h.1 with
   |c::cs,_=>
    simp only[take_succ_cons,take_zero,RepL]at M
    obtain⟨u,us,e,X,_⟩:=M
    simp only[List.cons.injEq]at e
    simp only[Bool.false_eq_true,if_false,headD_cons]
    rw[e.1];exact X
theorem j8 {off:Nat} {x:AV} {K:AV->Prop} (h:cQ off x K):∃R,K R/\∀K':AV->Prop,K' R->cQ off x K':=by
 unfold cQ at h
 split at h
 ·exact⟨_,h,λK' D=>D⟩
 ·exact⟨_,h,λK' D=>D⟩
 ·exact h.elim
theorem rE {F:Nat->Bool} {ops:Array Oper} {D:Array Bool} {good E:List Nat} {i j:Nat} {I:SOper} (h:gz P n F ops D good i=some (j,I,E)):i=j:=by
 unfold gz at h
 split at h
 ·cases h
 split at h
 ·cases h
 split at h
 rotate_left
 ·cases h
 split at h
 ·split at h
  ·cases h;rfl
  ·cases h
 ·split at h
  ·split at h
   ·split at h
    ·cases h;rfl
    ·cases h
   ·cases h
  ·cases h
 ·split at h
  ·cases h;rfl
  ·cases h
theorem eK {ro:Nat->Bool} {ops:Array Oper} {Q:Exit->Act->World->Prop} {K:Env->Store->Prop} (ac:Region.noSelect ops=true) (hQ:∀c a w,¬Q (.panic c) a w)
  (hK:∀env σ a w,K env σ->St G ρ ws σs n env σ a w->Q .normal a w) (bh:Sat G (σs++ρ) ws):
  ∀(f:Nat) (D:Array Bool) (good:List Nat) (sl:List SOper) (env:Env) (σ:Store) (a:Act) (w:World),j7 P n ro ops f D good=some sl->
   srun G P sl env σ K->St G ρ ws σs n env σ a w->bT ρ ws σs good env a->wpAnyH P .any ops Q (bS σs ws) f D a w
 |0,D,good,sl,env,σ,a,w,hd,h,st,O=>by
  simp only[j7]at hd
  split at hd
  ·rename_i I
   cases hd
   exact⟨by simpa using I,hK _ _ _ _ h st⟩
  ·cases hd
 |f+1,D,good,sl,env,σ,a,w,hd,h,st,O=>by
  have al:∀{env σ a w},St G ρ ws σs n env σ a w->bS σs ws w:=λst ad v hv hm=>(st.ev.cell ad v hv hm).1
  simp only[j7]at hd
  split at hd
  ·rename_i I
   cases hd
   exact wpAnyH_done (by simpa using I) (hK _ _ _ _ h st) _
  rename_i d1
  split at hd
  ·
   rename_i i so aw ch
   obtain⟨rest,X,rfl⟩:=Option.map_eq_some_iff.1 hd
   obtain⟨i',bb,N⟩:=exists_of_findSome?_eq_some ch
   obtain rfl:i'=i:=rE N
   have bq:(Region.ready .any ops D).contains i'=true:=by simpa using bb
   unfold gz at N
   split at N
   ·cases N
   rename_i o ho
   split at N
   ·cases N
   rename_i s0 bo
   obtain⟨M,g,e1,e2,e3,rfl⟩:=dm bo
   split at N
   rotate_left
   ·cases N
   rename_i ba
   have take:∀(be:SOp) (kp:Bool),so=⟨o.dst,g,be⟩->aw=ca o.dst good kp->
     (∀env,(∀j,Rep (σ++ρ) w (env.get j) (a.tmps.getD j undef))->bT ρ ws σs good env a->aop G P be env σ (λr σ'=>srun G P rest (env.put o.dst r) σ' K)->
      ∃r u,srun G P rest (env.put o.dst r) σ K/\Rep (σ++ρ) w r u/\(kp=true->Rep (σs++ρ) ws r u)/\∀w',bS σs ws w'->(execOp a.eval o).run P w'= .ok (.value u) w')->
     wpAnyH P .any ops Q (bS σs ws) (f+1) D a w:=by
    intro be kp e4 e5 bd
    subst e4 e5
    have go:∀env,aop G P be env σ (λr σ'=>srun G P rest (env.put o.dst r) σ' K)->St G ρ ws σs n env σ a w->bT ρ ws σs good env a->Region.wanted o (yielded ops a.tmps)=true->
      wpAnyH P .any ops Q (bS σs ws) (f+1) D a w:=by
     intro env h st O hw
     obtain⟨r,u,hk,I,bm,J⟩:=bd env st.env O h
     exact wpAnyH_take ho ac ba bq (λc a w h=>(hQ _ _ _ h).elim) (.inl ⟨hw,J⟩) (al st)
      (eK ac hQ hK bh f _ _ rest _ _ _ _ X hk (st.put e3 st.sat (Ev.refl σ w) I) (O.put e3 st.size bm))
    have skip:∀env,srun G P rest (env.put o.dst aC) σ K->St G ρ ws σs n env σ a w->bT ρ ws σs good env a->Region.wanted o (yielded ops a.tmps)=false->
      wpAnyH P .any ops Q (bS σs ws) (f+1) D a w:=λenv h st O hw=>
     wpAnyH_take ho ac ba bq (λc a w h=>(hQ _ _ _ h).elim) (.inr ⟨hw,rfl⟩) (al st)
      (eK ac hQ hK bh f _ _ rest _ _ _ _ X h (st.put e3 st.sat (Ev.refl σ w) (cg _ w)) (O.put e3 st.size λ_=>cg _ _))
    cases F:o.guard with
    |none=>
     rw[F]at e2
     cases e2
     exact go env h st O (cC F)
    |some jb=>
     obtain⟨j,E⟩:=jb
     rw[F]at e2
     obtain⟨d,ah,rfl⟩:=bI e2
     have h:gd (env.get d) E (aop G P be (env.set d (.bool E)) σ λr σ'=>srun G P rest ((env.set d (.bool E)).put o.dst r) σ' K)
      (srun G P rest ((env.set d (.bool (!E))).put o.dst aC) σ K) (srun G P rest (env.put o.dst aC) σ K):=h
     unfold gd at h
     split at h
     ·rename_i b T
      by_cases bl:b=E
      ·subst bl
       exact go _ (h.1 rfl) (st.set T) (O.set T) (by rw[bE F ah st.env T];simp)
      ·have bk:b= !E:=by cases b<;>cases E<;>simp_all
       subst bk
       exact skip _ (h.2 rfl) (st.set T) (O.set T) (by rw[bE F ah st.env T];cases E<;>rfl)
     ·rename_i T
      exact skip _ h st O (cr F ah st.env T)
     ·exact h.elim
   have plain:M.slot=true->so=⟨o.dst,g,M⟩->aw=ca o.dst good false->wpAnyH P .any ops Q (bS σs ws) (f+1) D a w:=by
    intro Y e4 e5
    have e1:bQ P o.op=some M:=e1.resolve_right λe=>by
     rcases e with e|⟨_,_,_,_,_,e⟩<;>(rw[e]at Y;exact absurd Y (by simp[SOp.slot]))
    refine take M false e4 e5 λenv hE V h=>?_
    rw[j5 Y]at h
    obtain⟨r,u,hk,I,J⟩:=dg rfl e1 rfl st.sat hE h
    exact⟨r,u,hk,I,(λc=>by cases c),λw' _=>J w' (λc=>by rw[fE e1 Y]at c;cases c)⟩
   split at N
   ·
    rename_i t p k bd
    split at N
    rotate_left
    ·cases N
    rename_i Y
    cases N
    have Y:M.slot=true:=Y
    have e1:bQ P o.op=some M:=e1.resolve_right λe=>by
     rcases e with e|⟨_,_,_,_,_,e⟩<;>(rw[e]at Y;exact absurd Y (by simp[SOp.slot]))
    have Z:bM P t (.tmp p) k=some M:=by rw[bd]at e1;exact e1
    obtain⟨off,bp⟩:∃off,M= .fieldA off (.t p):=by
     unfold bM at Z
     split at Z
     ·split at Z
      ·split at Z
       ·cases Z;exact⟨_,rfl⟩
       ·cases Z
      ·cases Z
     ·cases Z
    subst bp
    refine take (.fieldA off (.t p)) (good.contains p) rfl rfl λenv hE V h=>?_
    have h:cQ off (env.get p) (λr=>srun G P rest (env.put o.dst r) σ K):=h
    obtain⟨R,bu,hR⟩:=j8 h
    obtain⟨r,u,hk,I,J⟩:=dg (env:=env) (K:=λr=>r=R) rfl e1 rfl st.sat hE (show cQ off (env.get p) (λr=>r=R)from hR (λr=>r=R) rfl)
    subst hk
    have bi:∀w',(execOp a.eval o).run P w'= .ok (.value u) w':=λw'=>J w' (λc=>by rw[fE e1 rfl]at c;cases c)
    refine⟨r,u,bu,I,λhp=>?_,λw' _=>bi w'⟩
    have bs:∀j,Rep (σs++ρ) ws (Env.get [(p,env.get p)] j) (a.tmps.getD j undef):=by
     intro j
     simp only[Env.get]
     split
     ·rename_i e;subst e;exact V _ hp
     ·simp only[Rep]
    obtain⟨r2,u2,cm,cp,bn⟩:=dg (env:=[(p,env.get p)]) (K:=λr'=>r'=r) rfl e1 (rfl:σs++ρ=σs++ρ) bh bs (by
     show cQ off (Env.get [(p,env.get p)] p) (λr'=>r'=r)
     simp only[Env.get,if_true]
     exact hR (λr'=>r'=r) rfl)
    subst cm
    have:=bn w (λc=>by rw[fE e1 rfl]at c;cases c)
    rw[bi w]at this
    injection this with this _
    injection this with this
    rw[this];exact cp
   ·
    rename_i t p bd
    split at N
    rotate_left
    ·cases N
    rename_i hp
    split at N
    rotate_left
    ·cases N
    rename_i d m hu hm
    split at N
    rotate_left
    ·cases N
    rename_i h1
    cases N
    refine take (.loadF (aggD d) m (.t p)) false rfl rfl λenv hE V h=>?_
    have h:refX (env.get p) λcs=>eV (aggD d) m cs (λr=>srun G P rest (env.put o.dst r) σ K):=h
    unfold refX at h
    split at h
    rotate_left
    ·exact h.elim
    rename_i cs bx
    have I:=V p hp
    rw[bx]at I
    simp only[Rep]at I
    obtain⟨ad,bw,cw⟩:=I
    obtain⟨r,v,hk,an,J⟩:=od hu hm h1 cw h
    refine⟨r,v,hk,Rep.ev st.ev _ _ an,(λc=>by cases c),λw' hw=>?_⟩
    have e3:a.eval (.tmp p)= .pointer (some ad):=bw
    simp[execOp,bd,Instr.loadAt,e3,Instr.sureAddr,J w' hw]
   ·split at N
    rotate_left
    ·cases N
    rename_i Y
    cases N
    exact plain Y rfl rfl
  ·
   split at hd
   rotate_left
   ·cases hd
   rename_i i bm
   split at hd
   rotate_left
   ·cases hd
   rename_i s0 d0
   obtain⟨rest,X,rfl⟩:=Option.map_eq_some_iff.1 hd
   obtain⟨o,ho,bo⟩:=Option.bind_eq_some_iff.1 d0
   obtain⟨M,g,e1,e2,e3,rfl⟩:=dm bo
   refine wpAnyH_all bm (by simp) λi' bb=>?_
   have bb:i'=i:=by simpa using bb
   subst bb
   have next:∀env σ a w,srun G P rest env σ K->St G ρ ws σs n env σ a w->bT ρ ws σs (ca o.dst good false) env a->bS σs ws w/\wpAnyH P .any ops Q (bS σs ws) f (D.setIfInBounds i' true) a w:=
    λenv σ a w h st O=>⟨al st,eK ac hQ hK bh f _ _ rest _ _ _ _ X h st O⟩
   have go:∀env,aop G P M env σ (λr σ'=>srun G P rest (env.put o.dst r) σ' K)->St G ρ ws σs n env σ a w->bT ρ ws σs good env a->Region.wanted o (yielded ops a.tmps)=true->
     wpOp P ops Q i' (λa' w'=>bS σs ws w'/\wpAnyH P .any ops Q (bS σs ws) f (D.setIfInBounds i' true) a' w') a w:=by
    intro env h st O hw
    unfold wpOp
    simp only[ho]
    rw[if_pos hw]
    refine .inl ?_
    have gp:∀{r v},bT ρ ws σs (ca o.dst good false) (env.put o.dst r) (a.put o.dst v):=O.put e3 st.size (λc=>by cases c)
    rcases e1 with e1|e|⟨t,x,m,T,hm,e⟩
    ·exact gx rfl e1 st.sat st.env h λv r σ' w' hk Y he I=>next _ _ _ _ hk (st.put e3 Y he I) gp
    ·rw[e]at h
     obtain⟨v,w',r,σ',I,hk,Y,he,an⟩:=h ρ w a o rfl st.sat st.env
     rcases I with I|⟨I,rfl⟩
     ·exact bF I (next _ _ _ _ hk (st.put e3 Y he an) gp)
     ·exact eB I (next _ _ _ _ hk (st.put e3 Y he an) gp)
    ·rw[e]at h
     exact mR (n:=m) (K:=λr σ'=>srun G P rest (env.put o.dst r) σ' K) T st.sat st.env h λv r σ' w' hk Y he I=>next _ _ _ _ hk (st.put e3 Y he I) gp
   have skip:∀env,srun G P rest (env.put o.dst aC) σ K->St G ρ ws σs n env σ a w->bT ρ ws σs good env a->Region.wanted o (yielded ops a.tmps)=false->
     wpOp P ops Q i' (λa' w'=>bS σs ws w'/\wpAnyH P .any ops Q (bS σs ws) f (D.setIfInBounds i' true) a' w') a w:=by
    intro env h st O hw
    unfold wpOp
    simp only[ho,hw]
    exact next _ _ _ _ h (st.put e3 st.sat (Ev.refl σ w) (cg _ w)) (O.put e3 st.size (λc=>by cases c))
   cases F:o.guard with
   |none=>
    rw[F]at e2
    cases e2
    exact go env h st O (cC F)
   |some jb=>
    obtain⟨j,E⟩:=jb
    rw[F]at e2
    obtain⟨d,ah,rfl⟩:=bI e2
    have h:gd (env.get d) E (aop G P M (env.set d (.bool E)) σ λr σ'=>srun G P rest ((env.set d (.bool E)).put o.dst r) σ' K)
     (srun G P rest ((env.set d (.bool (!E))).put o.dst aC) σ K) (srun G P rest (env.put o.dst aC) σ K):=h
    unfold gd at h
    split at h
    ·rename_i b T
     by_cases bl:b=E
     ·subst bl
      exact go _ (h.1 rfl) (st.set T) (O.set T) (by rw[bE F ah st.env T];simp)
     ·have bk:b= !E:=by cases b<;>cases E<;>simp_all
      subst bk
      exact skip _ (h.2 rfl) (st.set T) (O.set T) (by rw[bE F ah st.env T];cases E<;>rfl)
    ·rename_i T
     exact skip _ h st O (cr F ah st.env T)
    ·exact h.elim
theorem ni {env:Env} {σ:Store} {K:Env->Store->Prop}:∀{l:List (Option DT)} {t:DT},allD l=some t->trun G P t env σ K->∀x∈l,∃E,x=some E/\trun G P E env σ K
 |[],_,h,_,_,_=>by cases h
 |[y],t,h,hr,x,D=>by
  have D:x=y:=by simpa using D
  subst D
  exact⟨t,h,hr⟩
 |y::z::l,t,h,hr,x,D=>by
  unfold allD at h
  simp only[]at h
  split at h
  ·rename_i a b F
   cases h
   rcases mem_cons.1 D with rfl|D
   ·exact⟨a,rfl,hr.1⟩
   ·exact ni F hr.2 x D
  ·cases h
theorem eE {ro:Nat->Bool} {ops:Array Oper} {Q:Exit->Act->World->Prop} {K:Env->Store->Prop} (ac:Region.noSelect ops=true) (hQ:∀c a w,¬Q (.panic c) a w)
  (hK:∀env σ a w,K env σ->St G ρ ws σs n env σ a w->Q .normal a w) (be:Sat G (σs++ρ) ws):
  ∀(f:Nat) (D:Array Bool) (good:List Nat) (sl:DT) (env:Env) (σ:Store) (a:Act) (w:World),jZ P n ro ops f D good=some sl->
   trun G P sl env σ K->St G ρ ws σs n env σ a w->bT ρ ws σs good env a->wpAnyH P .any ops Q (bS σs ws) f D a w
 |0,D,good,sl,env,σ,a,w,hd,h,st,O=>by
  simp only[jZ]at hd
  split at hd
  ·rename_i I
   cases hd
   exact⟨by simpa using I,hK _ _ _ _ h st⟩
  ·cases hd
 |f+1,D,good,sl,env,σ,a,w,hd,h,st,O=>by
  have al:∀{env σ a w},St G ρ ws σs n env σ a w->bS σs ws w:=λst ad v hv hm=>(st.ev.cell ad v hv hm).1
  simp only[jZ]at hd
  split at hd
  ·rename_i I
   cases hd
   exact wpAnyH_done (by simpa using I) (hK _ _ _ _ h st) _
  rename_i cp
  split at hd
  ·
   rename_i i so aw ch
   obtain⟨rest,X,rfl⟩:=Option.map_eq_some_iff.1 hd
   obtain⟨i',bl,N⟩:=exists_of_findSome?_eq_some ch
   obtain rfl:i'=i:=rE N
   have bq:(Region.ready .any ops D).contains i'=true:=by simpa using bl
   unfold gz at N
   split at N
   ·cases N
   rename_i o ho
   split at N
   ·cases N
   rename_i s0 bo
   obtain⟨M,g,e1,e2,e3,rfl⟩:=dm bo
   split at N
   rotate_left
   ·cases N
   rename_i ba
   have take:∀(bd:SOp) (kp:Bool),so=⟨o.dst,g,bd⟩->aw=ca o.dst good kp->
     (∀env,(∀j,Rep (σ++ρ) w (env.get j) (a.tmps.getD j undef))->bT ρ ws σs good env a->aop G P bd env σ (λr σ'=>trun G P rest (env.put o.dst r) σ' K)->
      ∃r u,trun G P rest (env.put o.dst r) σ K/\Rep (σ++ρ) w r u/\(kp=true->Rep (σs++ρ) ws r u)/\∀w',bS σs ws w'->(execOp a.eval o).run P w'= .ok (.value u) w')->
     wpAnyH P .any ops Q (bS σs ws) (f+1) D a w:=by
    intro bd kp e4 e5 bb
    subst e4 e5
    have go:∀env,aop G P bd env σ (λr σ'=>trun G P rest (env.put o.dst r) σ' K)->St G ρ ws σs n env σ a w->bT ρ ws σs good env a->Region.wanted o (yielded ops a.tmps)=true->
      wpAnyH P .any ops Q (bS σs ws) (f+1) D a w:=by
     intro env h st O hw
     obtain⟨r,u,hk,I,d1,J⟩:=bb env st.env O h
     exact wpAnyH_take ho ac ba bq (λc a w h=>(hQ _ _ _ h).elim) (.inl ⟨hw,J⟩) (al st)
      (eE ac hQ hK be f _ _ rest _ _ _ _ X hk (st.put e3 st.sat (Ev.refl σ w) I) (O.put e3 st.size d1))
    have skip:∀env,trun G P rest (env.put o.dst aC) σ K->St G ρ ws σs n env σ a w->bT ρ ws σs good env a->Region.wanted o (yielded ops a.tmps)=false->
      wpAnyH P .any ops Q (bS σs ws) (f+1) D a w:=λenv h st O hw=>
     wpAnyH_take ho ac ba bq (λc a w h=>(hQ _ _ _ h).elim) (.inr ⟨hw,rfl⟩) (al st)
      (eE ac hQ hK be f _ _ rest _ _ _ _ X h (st.put e3 st.sat (Ev.refl σ w) (cg _ w)) (O.put e3 st.size λ_=>cg _ _))
    cases F:o.guard with
    |none=>
     rw[F]at e2
     cases e2
     exact go env h st O (cC F)
    |some jb=>
     obtain⟨j,E⟩:=jb
     rw[F]at e2
     obtain⟨d,ah,rfl⟩:=bI e2
     have h:gd (env.get d) E (aop G P bd (env.set d (.bool E)) σ λr σ'=>trun G P rest ((env.set d (.bool E)).put o.dst r) σ' K)
      (trun G P rest ((env.set d (.bool (!E))).put o.dst aC) σ K) (trun G P rest (env.put o.dst aC) σ K):=h
     unfold gd at h
     split at h
     ·rename_i b T
      by_cases bk:b=E
      ·subst bk
       exact go _ (h.1 rfl) (st.set T) (O.set T) (by rw[bE F ah st.env T];simp)
      ·have bi:b= !E:=by cases b<;>cases E<;>simp_all
       subst bi
       exact skip _ (h.2 rfl) (st.set T) (O.set T) (by rw[bE F ah st.env T];cases E<;>rfl)
     ·rename_i T
      exact skip _ h st O (cr F ah st.env T)
     ·exact h.elim
   have plain:M.slot=true->so=⟨o.dst,g,M⟩->aw=ca o.dst good false->wpAnyH P .any ops Q (bS σs ws) (f+1) D a w:=by
    intro Y e4 e5
    have e1:bQ P o.op=some M:=e1.resolve_right λe=>by
     rcases e with e|⟨_,_,_,_,_,e⟩<;>(rw[e]at Y;exact absurd Y (by simp[SOp.slot]))
    refine take M false e4 e5 λenv hE V h=>?_
    rw[j5 Y]at h
    obtain⟨r,u,hk,I,J⟩:=dg rfl e1 rfl st.sat hE h
    exact⟨r,u,hk,I,(λc=>by cases c),λw' _=>J w' (λc=>by rw[fE e1 Y]at c;cases c)⟩
   split at N
   ·
    rename_i t p k bb
    split at N
    rotate_left
    ·cases N
    rename_i Y
    cases N
    have Y:M.slot=true:=Y
    have e1:bQ P o.op=some M:=e1.resolve_right λe=>by
     rcases e with e|⟨_,_,_,_,_,e⟩<;>(rw[e]at Y;exact absurd Y (by simp[SOp.slot]))
    have Z:bM P t (.tmp p) k=some M:=by rw[bb]at e1;exact e1
    obtain⟨off,bp⟩:∃off,M= .fieldA off (.t p):=by
     unfold bM at Z
     split at Z
     ·split at Z
      ·split at Z
       ·cases Z;exact⟨_,rfl⟩
       ·cases Z
      ·cases Z
     ·cases Z
    subst bp
    refine take (.fieldA off (.t p)) (good.contains p) rfl rfl λenv hE V h=>?_
    have h:cQ off (env.get p) (λr=>trun G P rest (env.put o.dst r) σ K):=h
    obtain⟨R,bu,hR⟩:=j8 h
    obtain⟨r,u,hk,I,J⟩:=dg (env:=env) (K:=λr=>r=R) rfl e1 rfl st.sat hE (show cQ off (env.get p) (λr=>r=R)from hR (λr=>r=R) rfl)
    subst hk
    have bh:∀w',(execOp a.eval o).run P w'= .ok (.value u) w':=λw'=>J w' (λc=>by rw[fE e1 rfl]at c;cases c)
    refine⟨r,u,bu,I,λhp=>?_,λw' _=>bh w'⟩
    have bs:∀j,Rep (σs++ρ) ws (Env.get [(p,env.get p)] j) (a.tmps.getD j undef):=by
     intro j
     simp only[Env.get]
     split
     ·rename_i e;subst e;exact V _ hp
     ·simp only[Rep]
    obtain⟨r2,u2,cm,cw,bm⟩:=dg (env:=[(p,env.get p)]) (K:=λr'=>r'=r) rfl e1 (rfl:σs++ρ=σs++ρ) be bs (by
     show cQ off (Env.get [(p,env.get p)] p) (λr'=>r'=r)
     simp only[Env.get,if_true]
     exact hR (λr'=>r'=r) rfl)
    subst cm
    have:=bm w (λc=>by rw[fE e1 rfl]at c;cases c)
    rw[bh w]at this
    injection this with this _
    injection this with this
    rw[this];exact cw
   ·
    rename_i t p bb
    split at N
    rotate_left
    ·cases N
    rename_i hp
    split at N
    rotate_left
    ·cases N
    rename_i d m hu hm
    split at N
    rotate_left
    ·cases N
    rename_i h1
    cases N
    refine take (.loadF (aggD d) m (.t p)) false rfl rfl λenv hE V h=>?_
    have h:refX (env.get p) λcs=>eV (aggD d) m cs (λr=>trun G P rest (env.put o.dst r) σ K):=h
    unfold refX at h
    split at h
    rotate_left
    ·exact h.elim
    rename_i cs bx
    have I:=V p hp
    rw[bx]at I
    simp only[Rep]at I
    obtain⟨ad,bw,d0⟩:=I
    obtain⟨r,v,hk,an,J⟩:=od hu hm h1 d0 h
    refine⟨r,v,hk,Rep.ev st.ev _ _ an,(λc=>by cases c),λw' hw=>?_⟩
    have e3:a.eval (.tmp p)= .pointer (some ad):=bw
    simp[execOp,bb,Instr.loadAt,e3,Instr.sureAddr,J w' hw]
   ·split at N
    rotate_left
    ·cases N
    rename_i Y
    cases N
    exact plain Y rfl rfl
  ·
   refine wpAnyH_all rfl (λe=>cp (by simp[e])) λi' bl=>?_
   obtain⟨t',bn,h⟩:=ni hd h _ (mem_map_of_mem bl)
   split at bn
   rotate_left
   ·cases bn
   rename_i s0 d2
   obtain⟨rest,X,rfl⟩:=Option.map_eq_some_iff.1 bn
   obtain⟨o,ho,bo⟩:=Option.bind_eq_some_iff.1 d2
   obtain⟨M,g,e1,e2,e3,rfl⟩:=dm bo
   have next:∀env σ a w,trun G P rest env σ K->St G ρ ws σs n env σ a w->bT ρ ws σs (ca o.dst good false) env a->bS σs ws w/\wpAnyH P .any ops Q (bS σs ws) f (D.setIfInBounds i' true) a w:=
    λenv σ a w h st O=>⟨al st,eE ac hQ hK be f _ _ rest _ _ _ _ X h st O⟩
   have go:∀env,aop G P M env σ (λr σ'=>trun G P rest (env.put o.dst r) σ' K)->St G ρ ws σs n env σ a w->bT ρ ws σs good env a->Region.wanted o (yielded ops a.tmps)=true->
     wpOp P ops Q i' (λa' w'=>bS σs ws w'/\wpAnyH P .any ops Q (bS σs ws) f (D.setIfInBounds i' true) a' w') a w:=by
    intro env h st O hw
    unfold wpOp
    simp only[ho]
    rw[if_pos hw]
    refine .inl ?_
    have gp:∀{r v},bT ρ ws σs (ca o.dst good false) (env.put o.dst r) (a.put o.dst v):=O.put e3 st.size (λc=>by cases c)
    rcases e1 with e1|e|⟨t,x,m,T,hm,e⟩
    ·exact gx rfl e1 st.sat st.env h λv r σ' w' hk Y he I=>next _ _ _ _ hk (st.put e3 Y he I) gp
    ·rw[e]at h
     obtain⟨v,w',r,σ',I,hk,Y,he,an⟩:=h ρ w a o rfl st.sat st.env
     rcases I with I|⟨I,rfl⟩
     ·exact bF I (next _ _ _ _ hk (st.put e3 Y he an) gp)
     ·exact eB I (next _ _ _ _ hk (st.put e3 Y he an) gp)
    ·rw[e]at h
     exact mR (n:=m) (K:=λr σ'=>trun G P rest (env.put o.dst r) σ' K) T st.sat st.env h λv r σ' w' hk Y he I=>next _ _ _ _ hk (st.put e3 Y he I) gp
   have skip:∀env,trun G P rest (env.put o.dst aC) σ K->St G ρ ws σs n env σ a w->bT ρ ws σs good env a->Region.wanted o (yielded ops a.tmps)=false->
     wpOp P ops Q i' (λa' w'=>bS σs ws w'/\wpAnyH P .any ops Q (bS σs ws) f (D.setIfInBounds i' true) a' w') a w:=by
    intro env h st O hw
    unfold wpOp
    simp only[ho,hw]
    exact next _ _ _ _ h (st.put e3 st.sat (Ev.refl σ w) (cg _ w)) (O.put e3 st.size (λc=>by cases c))
   cases F:o.guard with
   |none=>
    rw[F]at e2
    cases e2
    exact go env h st O (cC F)
   |some jb=>
    obtain⟨j,E⟩:=jb
    rw[F]at e2
    obtain⟨d,ah,rfl⟩:=bI e2
    have h:gd (env.get d) E (aop G P M (env.set d (.bool E)) σ λr σ'=>trun G P rest ((env.set d (.bool E)).put o.dst r) σ' K)
     (trun G P rest ((env.set d (.bool (!E))).put o.dst aC) σ K) (trun G P rest (env.put o.dst aC) σ K):=h
    unfold gd at h
    split at h
    ·rename_i b T
     by_cases bk:b=E
     ·subst bk
      exact go _ (h.1 rfl) (st.set T) (O.set T) (by rw[bE F ah st.env T];simp)
     ·have bi:b= !E:=by cases b<;>cases E<;>simp_all
      subst bi
      exact skip _ (h.2 rfl) (st.set T) (O.set T) (by rw[bE F ah st.env T];cases E<;>rfl)
    ·rename_i T
     exact skip _ h st O (cr F ah st.env T)
    ·exact h.elim
end
end Go.Av
