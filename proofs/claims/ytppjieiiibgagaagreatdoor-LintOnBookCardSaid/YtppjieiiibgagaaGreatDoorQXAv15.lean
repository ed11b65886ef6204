/-
  ABSTRACT VALUES, 15: a region; code; a function.
-/
import Derived.Test.YtppjieiiibgagaaGreatDoorQXAv13toXAv14
set_option linter.all false
namespace Go.Av
open Go Go.RowKit List
def sA (v:AV) (d:Nat):∀(env:Env) (j:Nat),(env.set d v).get j=if d=j then v else env.get j
 |[],j=>by simp[Env.set,Env.get]
 |(k,x)::e,j=>by
  simp only[Env.set];by_cases E:k=d
  ·subst E;simp only[if_true,Env.get];split<;>rfl
  ·simp only[E,if_false,Env.get,sA v d e j];by_cases D:k=j
   ·subst D;have:¬d=k:=λe=>E e.symm;simp[this]
   ·simp[D]
def sQ (ks:List Nat):∀(env:Env) (j:Nat),(env.keep ks).get j= .any\/(env.keep ks).get j=env.get j
 |[],j=>.inr rfl
 |(k,x)::e,j=>by
  simp only[Env.keep,filter_cons];by_cases E:ks.contains k=true
  ·simp only[E,if_true,Env.get];by_cases D:k=j
   ·simp[D]
   ·simp only[D,if_false];exact sQ ks e j
  ·simp only[E,Env.get];by_cases D:k=j
   ·left;subst D
    have key:∀e:Env,Env.get (e.filter λp=>ks.contains p.1) k= .any:=by
     intro e
     induction e with
     |nil=>rfl
     |cons p e ih=>
      simp only[filter_cons];split
      ·rename_i I;simp only[Env.get];split
       ·rename_i F;rw[F]at I;exact absurd I E
       ·exact ih
      ·exact ih
    exact key e
   ·simp only[D,if_false];exact sQ ks e j
structure St (G:Glob) (ρ:Store) (w0:World) (σ0:Store) (n:Nat) (env:Env) (σ:Store) (a:Act) (w:World):Prop where
 sat:Sat G (σ++ρ) w
 ev:Ev σ0 w0 σ w
 env:∀j,Rep (σ++ρ) w (env.get j) (a.tmps.getD j undef)
 size:n<=a.tmps.size
 defers:a.defers=[]
section
variable {G:Glob} {P:Program} {ρ:Store} {w0:World} {σ0:Store} {n:Nat}
def mH (a:Act) (d:Option Tmp) (v:Value):(a.put d v).tmps.size=a.tmps.size:=by
 cases d<;>simp[Act.put]
def jf (a:Act) (d:Option Tmp) (v:Value):(a.put d v).defers=a.defers:=by
 cases d<;>simp[Act.put]
def oJ {τ:Store} {w:World} {env:Env} {a:Act} {d:Option Nat} {r:AV} {v:Value} (E:∀j,Rep τ w (env.get j) (a.tmps.getD j undef)) (F:d7 n d=true) (J:n<=a.tmps.size)
  (I:Rep τ w r v):∀j,Rep τ w ((env.put d r).get j) ((a.put d v).tmps.getD j undef):=by
 intro j
 cases d with
 |none=>exact E j
 |some d=>
  simp only[d7,decide_eq_true_eq]at F;simp only[Env.put,Act.put,sA];by_cases D:d=j
  ·subst D
   have:(a.tmps.setIfInBounds d v).getD d undef=v:=by
    rw[Array.getD_eq_getD_getElem?,Array.getElem?_setIfInBounds];simp[show d<a.tmps.size by omega]
   rw[this];simpa using I
  ·have:(a.tmps.setIfInBounds d v).getD j undef=a.tmps.getD j undef:=by
    rw[Array.getD_eq_getD_getElem?,Array.getD_eq_getD_getElem?,Array.getElem?_setIfInBounds];simp[D]
   rw[this];simpa[D]using E j
def oF {τ:Store} {w:World} {env:Env} {a:Act} {j:Nat} {b:Bool} (D:∀j,Rep τ w (env.get j) (a.tmps.getD j undef)) (E:env.get j= .bool b):
  ∀i,Rep τ w ((env.set j (.bool b)).get i) (a.tmps.getD i undef):=by
 intro i
 rw[sA]
 by_cases h:j=i
 ·subst h;rw[←E];simpa using D j
 ·simpa[h]using D i
def cJ (τ:Store) (w:World):Rep τ w aG undef:=by
 simp only[aG,Rep];exact⟨#[],rfl,by simp[RepL]⟩
def dj {ops:Array Oper} {o:Oper} {tmps:Array Value} (h:o.guard=none):Region.wanted o (yielded ops tmps)=true:=by
 simp[Region.wanted,h]
def bN {τ:Store} {w:World} {env:Env} {ops:Array Oper} {o:Oper} {a:Act} {j d:Nat} {D b:Bool} (h:o.guard=some (j,D)) (N:(ops[j]?).bind (·.dst)=some d)
  (J:∀j,Rep τ w (env.get j) (a.tmps.getD j undef)) (M:env.get d= .bool b):Region.wanted o (yielded ops a.tmps)=(b==D):=by
 have E:=J d
 rw[M]at E
 simp only[Rep]at E
 have I:a.tmps[d]? =some (.bool b):=by
  rw[Array.getD_eq_getD_getElem?]at E
  cases F:a.tmps[d]? with
  |none=>rw[F]at E;simp[undef]at E
  |some x=>rw[F]at E;simp at E;rw[E]
 simp only[Region.wanted,h,yielded,N,Option.bind_some,I]
 cases b<;>cases D<;>rfl
def cS {τ:Store} {w:World} {env:Env} {ops:Array Oper} {o:Oper} {a:Act} {j d:Nat} {E:Bool} (h:o.guard=some (j,E)) (J:(ops[j]?).bind (·.dst)=some d)
  (F:∀j,Rep τ w (env.get j) (a.tmps.getD j undef)) (I:env.get d= .tup []):Region.wanted o (yielded ops a.tmps)=false:=by
 have D:=F d
 rw[I]at D
 simp only[Rep]at D
 obtain⟨vs,D,_⟩:=D
 simp only[Region.wanted,h,yielded,J,Option.bind_some]
 rw[Array.getD_eq_getD_getElem?]at D
 cases M:a.tmps[d]? with
 |none=>rfl
 |some x=>rw[M]at D;simp at D;subst D;rfl
def bV {ops:Array Oper} {j:Nat} {b:Bool} {g:Option (Nat×Bool)} (h:fc ops (some (j,b))=some g):∃d,(ops[j]?).bind (·.dst)=some d/\g=some (d,b):=by
 simp only[fc]at h;obtain⟨d,D,rfl⟩:=Option.map_eq_some_iff.1 h;exact⟨d,D,rfl⟩
def St.put {env:Env} {σ σ':Store} {a:Act} {w w':World} {d:Option Nat} {r:AV} {v:Value} (h:St G ρ w0 σ0 n env σ a w) (E:d7 n d=true) (I:Sat G (σ'++ρ) w') (D:Ev σ w σ' w')
  (F:Rep (σ'++ρ) w' r v):St G ρ w0 σ0 n (env.put d r) σ' (a.put d v) w' where
 sat:=I
 ev:=h.ev.trans D
 env:=oJ (λj=>Rep.ev D _ _ (h.env j)) E h.size F
 size:=by rw[mH];exact h.size
 defers:=by rw[jf];exact h.defers
def St.set {env:Env} {σ:Store} {a:Act} {w:World} {j:Nat} {b:Bool} (h:St G ρ w0 σ0 n env σ a w) (D:env.get j= .bool b):St G ρ w0 σ0 n (env.set j (.bool b)) σ a w:=
 {h with env:=oF h.env D}
def St.weak {env D:Env} {σ σ':Store} {a:Act} {w:World} (h:St G ρ w0 σ0 n env σ a w) (J:Weak G env σ D σ'):St G ρ w0 σ0 n D σ' a w:=by
 obtain⟨E,F,I⟩:=J ρ w a.tmps h.sat h.env;exact{h with sat:=E,ev:=h.ev.trans F,env:=I}
def St.keep {env:Env} {σ:Store} {a:Act} {w:World} (ks:List Nat) (h:St G ρ w0 σ0 n env σ a w):St G ρ w0 σ0 n (env.keep ks) σ a w:=
 ⟨h.sat,h.ev,λj=>by
   rcases sQ ks env j with e|e
   ·rw[e];simp only[Rep]
   ·rw[e];exact h.env j,h.size,h.defers⟩
def eG {J:Nat->Bool} {ops:Array Oper} {o:Oper} {l:List Oper} {M:List SOper} (h:cI P n J ops (o::l)=some M):
  ∃E g rest,(ci P o.op=some E\/E= .raw o.op\/∃e x m,o.op= .box e x/\bC P e=some m/\E= .boxR m (SOpd.of x))/\fc ops o.guard=some g/\d7 n o.dst=true/\cI P n J ops l=some rest/\M=⟨o.dst,g,E⟩::rest:=by
 simp only[cI]at h
 split at h
 ·rename_i E I F T
  cases h
  unfold eZ at F;split at F
  ·rename_i g N O
   cases F
   refine⟨_,g,I,?_,N,O,T,rfl⟩
   have D:∀y,y=(ci P o.op).getD (.raw o.op)->(ci P o.op=some y\/y= .raw o.op\/∃e x m,o.op= .box e x/\bC P e=some m/\y= .boxR m (SOpd.of x)):=by
    rintro y rfl
    cases ci P o.op with
    |none=>exact .inr (.inl rfl)
    |some E=>exact .inl rfl
   unfold roBox;split
   ·rename_i e x d X Y;split
    ·split
     ·rename_i m V;exact .inr (.inr ⟨e,x,m,X,V,rfl⟩)
     ·exact D _ rfl
    ·exact D _ rfl
   ·split
    ·exact .inr (.inl rfl)
    ·exact D _ rfl
   ·exact D _ rfl
  ·cases F
 ·cases h
def dE {ro:Nat->Bool} {ops:Array Oper} {Q:Exit->Act->World->Prop} {K:Env->Store->Prop} (I:∀env σ a w,K env σ->St G ρ w0 σ0 n env σ a w->Q .normal a w):
  ∀(l:List Oper) (sl:List SOper) (env:Env) (σ:Store) (a:Act) (w:World),cI P n ro ops l=some sl->srun G P sl env σ K->St G ρ w0 σ0 n env σ a w->wpList P ops Q l a w
 |[],sl,env,σ,a,w,ht,h,st=>by cases ht;exact I _ _ _ _ h st
 |o::l,sl,env,σ,a,w,ht,h,st=>by
  obtain⟨so,g,rest,e1,e2,O,T,rfl⟩:=eG ht
  have go:∀env,aop G P so env σ (λr σ'=>srun G P rest (env.put o.dst r) σ' K)->St G ρ w0 σ0 n env σ a w->o.wp P a w (wpList P ops Q l) Q:=λenv h st=>
   e1.elim (λe1=>ik rfl e1 st.sat st.env h λv r σ' w' M N J E=>dE I l rest _ _ _ _ T M (st.put O N J E)) λe=>by
    rcases e with e|⟨t,x,m,ho,hm,e⟩
    rotate_left
    ·rw[e]at h;exact oh (n:=m) (K:=λr σ'=>srun G P rest (env.put o.dst r) σ' K) ho st.sat st.env h λv r σ' w' M N J E=>dE I l rest _ _ _ _ T M (st.put O N J E)
    rw[e]at h;obtain⟨v,w',r,σ',E,M,N,J,F⟩:=h ρ w a o rfl st.sat st.env
    rcases E with E|⟨E,rfl⟩
    ·exact ca E (dE I l rest _ _ _ _ T M (st.put O N J F))
    ·exact fu E (dE I l rest _ _ _ _ T M (st.put O N J F))
  have skip:∀env,srun G P rest (env.put o.dst aG) σ K->St G ρ w0 σ0 n env σ a w->wpList P ops Q l (a.put o.dst undef) w:=λenv h st=>
   dE I l rest _ _ _ _ T h (st.put O st.sat (Ev.refl σ w) (cJ _ w))
  cases Z:o.guard with
  |none=>
   rw[Z]at e2
   cases e2
   simp only[wpList];rw[if_pos (dj Z)];exact .inl (go env h st)
  |some jb=>
   obtain⟨j,D⟩:=jb;rw[Z]at e2;obtain⟨d,hd,rfl⟩:=bV e2;have h:gd (env.get d) D (aop G P so (env.set d (.bool D)) σ λr σ'=>srun G P rest ((env.set d (.bool D)).put o.dst r) σ' K)
    (srun G P rest ((env.set d (.bool (!D))).put o.dst aG) σ K) (srun G P rest (env.put o.dst aG) σ K):=h
   unfold gd at h;simp only[wpList];split at h
   ·rename_i b V;rw[bN Z hd st.env V];by_cases Y:b=D
    ·subst Y;simp only[BEq.rfl,if_true];exact .inl (go _ (h.1 rfl) (st.set V))
    ·have X:b= !D:=by cases b<;>cases D<;>simp_all
     have:(b==D)=false:=by simpa using Y
     simp only[this];exact skip _ (h.2 X) (st.set (by rw[V,X]))
   ·rename_i V;rw[cS Z hd st.env V];exact skip _ h st
   ·exact h.elim
def Rep.rigid {τ:Store} {w:World} {r:AV} {u v:Value} (h:Rep τ w r u) (D:r.rigid=some v):u=v:=by
 cases r<;>simp only[AV.rigid]at D<;>first
  |(cases D;done)
  |(cases D;simpa only[Rep]using h)
def uv {τ:Store} {w:World} {r:AV} {v:Value} (D:r.rigid=some v):Rep τ w r v:=by
 cases r<;>simp only[AV.rigid]at D<;>first
  |(cases D;done)
  |(cases D;simp only[Rep])
def Same.trans {w E w2:World} (h:Same w E) (k:Same E w2):Same w w2:=
 ⟨Nat.le_trans h.1 k.1,λb D=>(k.2 b (Nat.lt_of_lt_of_le D h.1)).trans (h.2 b D)⟩
def QC (G:Glob) (σ ρ:Store) (w w':World):Prop:=Sat G (σ++ρ) w'/\Ev σ w σ w'/\Same w w'
def qp {env:Env} {σ:Store} {a:Act} {w:World} {o:Oper} {c:Call} {f:Operand} {K:AV->Prop} (ho:o.op= .call c) (hc:c.callee= .value f)
  (hS:Sat G (σ++ρ) w) (N:∀j,Rep (σ++ρ) w (env.get j) (a.tmps.getD j undef))
  (h:scX ((SOpd.of f).eval G env) λv=>AQCall G P v ((c.args.toList.map SOpd.of).map (·.eval G env)) K):
  ∃r u,K r/\Rep (σ++ρ) w r u/\∀w',QC G σ ρ w w'->o.quietAt P a (QC G σ ρ w) w' u:=by
 have J:=au (G:=G) hS N f
 unfold scX at h
 split at h
 ·rename_i v he
  rw[he]at J;simp only[Rep]at J;obtain⟨r,I,E,⟨k,first,cap,hv,⟨fn,T,V,X⟩,D⟩,M,hK⟩:=h;subst hv;obtain⟨u,O⟩:=Option.isSome_iff_exists.1 E;refine⟨r,u,hK,uv O,λw' Z=>?_⟩;obtain⟨c1,c2,c3⟩:=Z;have F:=run_call (P:=P) (w':=w') ho hc J T V X;have Y:=nP (first:=first) (cap:=cap) (args:=c.args) c1 (λj=>Rep.ev c2 _ _ (N j)) M;unfold Oper.quietAt;rw[F];refine⟨rfl,?_⟩;refine(D (σ++ρ) w' (first++c.args.map a.eval++cap) (by simpa using c1) Y).mono ?_;rintro e aa ⟨v',r',σ',rfl,⟨rfl,rfl⟩,s1,ev,rr⟩;refine⟨by rw[Rep.rigid rr O],by simpa using s1,c2.trans ?_,c3.trans ⟨ev.size,λb hb=>(ev.block b hb (by simp[Store.keys])).1⟩⟩;have:=ev.frame (σ:=σ) (σr:=σ) (by intro p hp;simpa using hp);simpa using this
 ·exact h.elim
def nX {op:Op} (E:∀c,op≠ .call c) (f:SOpd) (args:List SOpd):ci P op≠some (.call f args):=by
 intro D
 cases op with
 |call c=>exact E c rfl
 |_=>first
  |(cases D;done)
  |(simp only[ci,dU,ei,cb,dR,ep,et,eu,gi,fb,dN,fZ]at D
    repeat' split at D
    all_goals simp_all)
def aqc_sound {env:Env} {σ:Store} {a:Act} {w:World} {o:Oper} {N:SOp} {K:AV->Prop} (D:ci P o.op=some N) (T:Sat G (σ++ρ) w)
  (O:∀j,Rep (σ++ρ) w (env.get j) (a.tmps.getD j undef)) (h:aqc G P N env σ K):
  ∃r u,K r/\Rep (σ++ρ) w r u/\∀w',QC G σ ρ w w'->o.quietAt P a (QC G σ ρ w) w' u:=by
 have J:aq G N env σ K->∃r u,K r/\Rep (σ++ρ) w r u/\∀w',QC G σ ρ w w'->o.quietAt P a (QC G σ ρ w) w' u:=by
  intro h;obtain⟨r,u,X,Y,M⟩:=d4 rfl D rfl T O h;refine⟨r,u,X,Y,λw' V=>?_⟩;unfold Oper.quietAt;rw[M w' (λ_=>V.2.2)];exact⟨rfl,rfl⟩
 by_cases F:∃f args,N= .call f args
 ·obtain⟨f,args,rfl⟩:=F
  cases I:o.op with
  |call c=>
   rw[I]at D
   have D:(match c.callee with
    | .builtin b=>bJ P b c.args.toList c.argTypes.toList
    | .value f=>some (.call (SOpd.of f) (c.args.toList.map SOpd.of))
    | .invoke r name=>some (.invoke (SOpd.of r) name (c.args.toList.map SOpd.of)))=some (SOp.call f args):=D
   cases E:c.callee with
   |invoke r m=>rw[E]at D;cases D
   |value f'=>
    rw[E]at D
    cases D
    exact qp I E T O h
   |builtin b=>
    rw[E]at D;have D:bJ P b c.args.toList c.argTypes.toList=some (SOp.call f args):=D;unfold bJ at D;split at D
    ·split at D<;>cases D
    ·split at D
     ·split at D
      ·split at D<;>cases D
      ·cases D
     ·cases D
    ·cases D
  |_=>exact absurd D (nX (λc e=>by rw[I]at e;cases e) f args)
 ·refine J ?_
  cases N<;>first
   |exact h
   |exact absurd ⟨_,_,rfl⟩ F
end
end Go.Av
