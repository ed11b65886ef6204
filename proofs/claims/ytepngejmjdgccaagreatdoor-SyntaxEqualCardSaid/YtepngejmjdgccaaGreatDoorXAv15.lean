/-
  ABSTRACT VALUES, 15: a region; code; a function.
-/
import Derived.Test.YtepngejmjdgccaaGreatDoorXAv14
namespace Go.Av
open Go Go.RowKit
set_option linter.unusedSimpArgs false
set_option linter.unusedVariables false
theorem Env.get_set (v:AV) (d:Nat):∀(env:Env) (j:Nat),(env.set d v).get j=if d=j then v else env.get j
 |[],j=>by simp[Env.set,Env.get]
 |(k,x)::e,j=>by
  simp only[Env.set]
  by_cases hk:k=d
  ·subst hk
   simp only[if_true,Env.get]
   split<;>rfl
  ·simp only[hk,if_false,Env.get,Env.get_set v d e j]
   by_cases hkj:k=j
   ·subst hkj
    have:¬d=k:=λe=>hk e.symm
    simp[this]
   ·simp[hkj]
theorem Env.get_keep (ks:List Nat):∀(env:Env) (j:Nat),(env.keep ks).get j= .any\/(env.keep ks).get j=env.get j
 |[],j=>.inr rfl
 |(k,x)::e,j=>by
  simp only[Env.keep,List.filter_cons]
  by_cases hk:ks.contains k=true
  ·simp only[hk,if_true,Env.get]
   by_cases hkj:k=j
   ·simp[hkj]
   ·simp only[hkj,if_false];exact Env.get_keep ks e j
  ·simp only[hk,Env.get]
   by_cases hkj:k=j
   ·left
    subst hkj
    have key:∀e:Env,Env.get (e.filter λp=>ks.contains p.1) k= .any:=by
     intro e
     induction e with
     |nil=>rfl
     |cons p e ih=>
      simp only[List.filter_cons]
      split
      ·rename_i hp
       simp only[Env.get]
       split
       ·rename_i hpk;rw[hpk]at hp;exact absurd hp hk
       ·exact ih
      ·exact ih
    exact key e
   ·simp only[hkj,if_false];exact Env.get_keep ks e j
structure St (G:Glob) (ρ:Store) (w0:World) (σ0:Store) (n:Nat) (env:Env) (σ:Store) (a:Act) (w:World):Prop where
 sat:Sat G (σ++ρ) w
 ev:Ev σ0 w0 σ w
 env:∀j,Rep (σ++ρ) w (env.get j) (a.tmps.getD j undef)
 size:n<=a.tmps.size
 defers:a.defers=[]
section
variable {G:Glob} {P:Program} {ρ:Store} {w0:World} {σ0:Store} {n:Nat}
theorem put_size (a:Act) (d:Option Tmp) (v:Value):(a.put d v).tmps.size=a.tmps.size:=by
 cases d<;>simp[Act.put]
theorem put_defers (a:Act) (d:Option Tmp) (v:Value):(a.put d v).defers=a.defers:=by
 cases d<;>simp[Act.put]
theorem put_env {τ:Store} {w:World} {env:Env} {a:Act} {d:Option Nat} {r:AV} {v:Value} (hE:∀j,Rep τ w (env.get j) (a.tmps.getD j undef)) (hd:transDst n d=true) (hs:n<=a.tmps.size)
  (hr:Rep τ w r v):∀j,Rep τ w ((env.put d r).get j) ((a.put d v).tmps.getD j undef):=by
 intro j
 cases d with
 |none=>exact hE j
 |some d=>
  simp only[transDst,decide_eq_true_eq]at hd
  simp only[Env.put,Act.put,Env.get_set]
  by_cases hj:d=j
  ·subst hj
   have:(a.tmps.setIfInBounds d v).getD d undef=v:=by
    rw[Array.getD_eq_getD_getElem?,Array.getElem?_setIfInBounds]
    simp[show d<a.tmps.size by omega]
   rw[this];simpa using hr
  ·have:(a.tmps.setIfInBounds d v).getD j undef=a.tmps.getD j undef:=by
    rw[Array.getD_eq_getD_getElem?,Array.getD_eq_getD_getElem?,Array.getElem?_setIfInBounds]
    simp[hj]
   rw[this];simpa[hj]using hE j
theorem set_env {τ:Store} {w:World} {env:Env} {a:Act} {j:Nat} {b:Bool} (hE:∀j,Rep τ w (env.get j) (a.tmps.getD j undef)) (hj:env.get j= .bool b):
  ∀i,Rep τ w ((env.set j (.bool b)).get i) (a.tmps.getD i undef):=by
 intro i
 rw[Env.get_set]
 by_cases h:j=i
 ·subst h;rw[←hj];simpa using hE j
 ·simpa[h]using hE i
theorem rep_undef (τ:Store) (w:World):Rep τ w undefAV undef:=by
 simp only[undefAV,Rep];exact⟨#[],rfl,by simp[RepL]⟩
theorem wanted_none {ops:Array Oper} {o:Oper} {tmps:Array Value} (h:o.guard=none):Region.wanted o (yielded ops tmps)=true:=by
 simp[Region.wanted,h]
theorem wanted_bool {τ:Store} {w:World} {env:Env} {ops:Array Oper} {o:Oper} {a:Act} {j d:Nat} {want b:Bool} (h:o.guard=some (j,want)) (hd:(ops[j]?).bind (·.dst)=some d)
  (hE:∀j,Rep τ w (env.get j) (a.tmps.getD j undef)) (hb:env.get d= .bool b):Region.wanted o (yielded ops a.tmps)=(b==want):=by
 have h1:=hE d
 rw[hb]at h1
 simp only[Rep]at h1
 have h2:a.tmps[d]? =some (.bool b):=by
  rw[Array.getD_eq_getD_getElem?]at h1
  cases hx:a.tmps[d]? with
  |none=>rw[hx]at h1;simp[undef]at h1
  |some x=>rw[hx]at h1;simp at h1;rw[h1]
 simp only[Region.wanted,h,yielded,hd,Option.bind_some,h2]
 cases b<;>cases want<;>rfl
theorem wanted_undef {τ:Store} {w:World} {env:Env} {ops:Array Oper} {o:Oper} {a:Act} {j d:Nat} {want:Bool} (h:o.guard=some (j,want)) (hd:(ops[j]?).bind (·.dst)=some d)
  (hE:∀j,Rep τ w (env.get j) (a.tmps.getD j undef)) (hb:env.get d= .tup []):Region.wanted o (yielded ops a.tmps)=false:=by
 have h1:=hE d
 rw[hb]at h1
 simp only[Rep]at h1
 obtain⟨vs,h1,_⟩:=h1
 simp only[Region.wanted,h,yielded,hd,Option.bind_some]
 rw[Array.getD_eq_getD_getElem?]at h1
 cases hx:a.tmps[d]? with
 |none=>rfl
 |some x=>rw[hx]at h1;simp at h1;subst h1;rfl
theorem transGuard_some {ops:Array Oper} {j:Nat} {b:Bool} {g:Option (Nat×Bool)} (h:transGuard ops (some (j,b))=some g):∃d,(ops[j]?).bind (·.dst)=some d/\g=some (d,b):=by
 simp only[transGuard]at h
 obtain⟨d,hd,rfl⟩:=Option.map_eq_some_iff.1 h
 exact⟨d,hd,rfl⟩
theorem St.put {env:Env} {σ σ':Store} {a:Act} {w w':World} {d:Option Nat} {r:AV} {v:Value} (h:St G ρ w0 σ0 n env σ a w) (hd:transDst n d=true) (hs:Sat G (σ'++ρ) w') (he:Ev σ w σ' w')
  (hr:Rep (σ'++ρ) w' r v):St G ρ w0 σ0 n (env.put d r) σ' (a.put d v) w' where
 sat:=hs
 ev:=h.ev.trans he
 env:=put_env (λj=>Rep.ev he _ _ (h.env j)) hd h.size hr
 size:=by rw[put_size];exact h.size
 defers:=by rw[put_defers];exact h.defers
theorem St.set {env:Env} {σ:Store} {a:Act} {w:World} {j:Nat} {b:Bool} (h:St G ρ w0 σ0 n env σ a w) (hj:env.get j= .bool b):St G ρ w0 σ0 n (env.set j (.bool b)) σ a w:=
 {h with env:=set_env h.env hj}
theorem St.weak {env env':Env} {σ σ':Store} {a:Act} {w:World} (h:St G ρ w0 σ0 n env σ a w) (hw:Weak G env σ env' σ'):St G ρ w0 σ0 n env' σ' a w:=by
 obtain⟨h1,h2,h3⟩:=hw ρ w a.tmps h.sat h.env
 exact{h with sat:=h1,ev:=h.ev.trans h2,env:=h3}
theorem St.keep {env:Env} {σ:Store} {a:Act} {w:World} (ks:List Nat) (h:St G ρ w0 σ0 n env σ a w):St G ρ w0 σ0 n (env.keep ks) σ a w:=
 ⟨h.sat,h.ev,λj=>by
   rcases Env.get_keep ks env j with e|e
   ·rw[e];simp only[Rep]
   ·rw[e];exact h.env j,h.size,h.defers⟩
theorem transOps_cons {ro:Nat->Bool} {ops:Array Oper} {o:Oper} {l:List Oper} {sl:List SOper} (h:transOps P n ro ops (o::l)=some sl):
  ∃so g rest,(transOp P o.op=some so\/so= .raw o.op\/∃e x m,o.op= .box e x/\sizeT P e=some m/\so= .boxR m (SOpd.of x))/\transGuard ops o.guard=some g/\transDst n o.dst=true/\transOps P n ro ops l=some rest/\sl=⟨o.dst,g,so⟩::rest:=by
 simp only[transOps]at h
 split at h
 ·rename_i so sos h1 h2
  cases h
  unfold transOper at h1
  split at h1
  ·rename_i g e2 e3
   cases h1
   refine⟨_,g,sos,?_,e2,e3,h2,rfl⟩
   have base:∀y,y=(transOp P o.op).getD (.raw o.op)->(transOp P o.op=some y\/y= .raw o.op\/∃e x m,o.op= .box e x/\sizeT P e=some m/\y= .boxR m (SOpd.of x)):=by
    rintro y rfl
    cases transOp P o.op with
    |none=>exact .inr (.inl rfl)
    |some so=>exact .inl rfl
   unfold roBox
   split
   ·rename_i e x d ho hd
    split
    ·split
     ·rename_i m hm
      exact .inr (.inr ⟨e,x,m,ho,hm,rfl⟩)
     ·exact base _ rfl
    ·exact base _ rfl
   ·split
    ·exact .inr (.inl rfl)
    ·exact base _ rfl
   ·exact base _ rfl
  ·cases h1
 ·cases h
theorem srun_sound {ro:Nat->Bool} {ops:Array Oper} {Q:Exit->Act->World->Prop} {K:Env->Store->Prop} (hK:∀env σ a w,K env σ->St G ρ w0 σ0 n env σ a w->Q .normal a w):
  ∀(l:List Oper) (sl:List SOper) (env:Env) (σ:Store) (a:Act) (w:World),transOps P n ro ops l=some sl->srun G P sl env σ K->St G ρ w0 σ0 n env σ a w->wpList P ops Q l a w
 |[],sl,env,σ,a,w,ht,h,st=>by cases ht;exact hK _ _ _ _ h st
 |o::l,sl,env,σ,a,w,ht,h,st=>by
  obtain⟨so,g,rest,e1,e2,e3,e4,rfl⟩:=transOps_cons ht
  have go:∀env,aop G P so env σ (λr σ'=>srun G P rest (env.put o.dst r) σ' K)->St G ρ w0 σ0 n env σ a w->o.wp P a w (wpList P ops Q l) Q:=λenv h st=>
   e1.elim (λe1=>aop_sound rfl e1 st.sat st.env h λv r σ' w' hk hs he hr=>srun_sound hK l rest _ _ _ _ e4 hk (st.put e3 hs he hr)) λe=>by
    rcases e with e|⟨t,x,m,ho,hm,e⟩
    rotate_left
    ·rw[e]at h
     exact e_boxR (n:=m) (K:=λr σ'=>srun G P rest (env.put o.dst r) σ' K) ho st.sat st.env h λv r σ' w' hk hs he hr=>srun_sound hK l rest _ _ _ _ e4 hk (st.put e3 hs he hr)
    rw[e]at h
    obtain⟨v,w',r,σ',hr,hk,hs,he,hrep⟩:=h ρ w a o rfl st.sat st.env
    rcases hr with hr|⟨hr,rfl⟩
    ·exact wp_of_value hr (srun_sound hK l rest _ _ _ _ e4 hk (st.put e3 hs he hrep))
    ·exact wp_of_skip hr (srun_sound hK l rest _ _ _ _ e4 hk (st.put e3 hs he hrep))
  have skip:∀env,srun G P rest (env.put o.dst undefAV) σ K->St G ρ w0 σ0 n env σ a w->wpList P ops Q l (a.put o.dst undef) w:=λenv h st=>
   srun_sound hK l rest _ _ _ _ e4 h (st.put e3 st.sat (Ev.refl σ w) (rep_undef _ w))
  cases hg:o.guard with
  |none=>
   rw[hg]at e2
   cases e2
   simp only[wpList]
   rw[if_pos (wanted_none hg)]
   exact .inl (go env h st)
  |some jb=>
   obtain⟨j,want⟩:=jb
   rw[hg]at e2
   obtain⟨d,hd,rfl⟩:=transGuard_some e2
   have h:gd (env.get d) want (aop G P so (env.set d (.bool want)) σ λr σ'=>srun G P rest ((env.set d (.bool want)).put o.dst r) σ' K)
    (srun G P rest ((env.set d (.bool (!want))).put o.dst undefAV) σ K) (srun G P rest (env.put o.dst undefAV) σ K):=h
   unfold gd at h
   simp only[wpList]
   split at h
   ·rename_i b hb
    rw[wanted_bool hg hd st.env hb]
    by_cases hbw:b=want
    ·subst hbw
     simp only[BEq.rfl,if_true]
     exact .inl (go _ (h.1 rfl) (st.set hb))
    ·have hbn:b= !want:=by cases b<;>cases want<;>simp_all
     have:(b==want)=false:=by simpa using hbw
     simp only[this]
     exact skip _ (h.2 hbn) (st.set (by rw[hb,hbn]))
   ·rename_i hb
    rw[wanted_undef hg hd st.env hb]
    exact skip _ h st
   ·exact h.elim
theorem Rep.rigid {τ:Store} {w:World} {r:AV} {u v:Value} (h:Rep τ w r u) (hr:r.rigid=some v):u=v:=by
 cases r<;>simp only[AV.rigid]at hr<;>first
  |(cases hr;done)
  |(cases hr;simpa only[Rep]using h)
theorem Rep.of_rigid {τ:Store} {w:World} {r:AV} {v:Value} (hr:r.rigid=some v):Rep τ w r v:=by
 cases r<;>simp only[AV.rigid]at hr<;>first
  |(cases hr;done)
  |(cases hr;simp only[Rep])
theorem Same.trans {w w1 w2:World} (h:Same w w1) (k:Same w1 w2):Same w w2:=
 ⟨Nat.le_trans h.1 k.1,λb hb=>(k.2 b (Nat.lt_of_lt_of_le hb h.1)).trans (h.2 b hb)⟩
def QC (G:Glob) (σ ρ:Store) (w w':World):Prop:=Sat G (σ++ρ) w'/\Ev σ w σ w'/\Same w w'
theorem qcall_sound {env:Env} {σ:Store} {a:Act} {w:World} {o:Oper} {c:Call} {f:Operand} {K:AV->Prop} (ho:o.op= .call c) (hc:c.callee= .value f)
  (hS:Sat G (σ++ρ) w) (hE:∀j,Rep (σ++ρ) w (env.get j) (a.tmps.getD j undef))
  (h:scX ((SOpd.of f).eval G env) λv=>AQCall G P v ((c.args.toList.map SOpd.of).map (·.eval G env)) K):
  ∃r u,K r/\Rep (σ++ρ) w r u/\∀w',QC G σ ρ w w'->o.quietAt P a (QC G σ ρ w) w' u:=by
 have hf:=eval_rep (G:=G) hS hE f
 unfold scX at h
 split at h
 ·rename_i v he
  rw[he]at hf
  simp only[Rep]at hf
  obtain⟨r,args',hrig,⟨k,first,cap,hv,⟨fn,g1,g2,g3⟩,hspec⟩,hle,hK⟩:=h
  subst hv
  obtain⟨u,hu⟩:=Option.isSome_iff_exists.1 hrig
  refine⟨r,u,hK,Rep.of_rigid hu,λw' hC=>?_⟩
  obtain⟨c1,c2,c3⟩:=hC
  have hrun:=run_call (P:=P) (w':=w') ho hc hf g1 g2 g3
  have hA:=call_args (first:=first) (cap:=cap) (args:=c.args) c1 (λj=>Rep.ev c2 _ _ (hE j)) hle
  unfold Oper.quietAt
  rw[hrun]
  refine⟨rfl,?_⟩
  refine(hspec (σ++ρ) w' (first++c.args.map a.eval++cap) (by simpa using c1) hA).mono ?_
  rintro e w'' ⟨v',r',σ',rfl,⟨rfl,rfl⟩,s1,ev,rr⟩
  refine⟨by rw[Rep.rigid rr hu],by simpa using s1,c2.trans ?_,c3.trans ⟨ev.size,λb hb=>(ev.block b hb (by simp[Store.keys])).1⟩⟩
  have:=ev.frame (σ:=σ) (σr:=σ) (by intro p hp;simpa using hp)
  simpa using this
 ·exact h.elim
theorem transOp_call {op:Op} (hn:∀c,op≠ .call c) (f:SOpd) (args:List SOpd):transOp P op≠some (.call f args):=by
 intro ht
 cases op with
 |call c=>exact hn c rfl
 |_=>first
  |(cases ht;done)
  |(simp only[transOp,transLoad,transBuild,transFieldA,transIndexA,transIndex,transSlice,transField,transBin,transConv,transBuildS,transMkI]at ht
    repeat' split at ht
    all_goals simp_all)
theorem aqc_sound {env:Env} {σ:Store} {a:Act} {w:World} {o:Oper} {so:SOp} {K:AV->Prop} (ht:transOp P o.op=some so) (hS:Sat G (σ++ρ) w)
  (hE:∀j,Rep (σ++ρ) w (env.get j) (a.tmps.getD j undef)) (h:aqc G P so env σ K):
  ∃r u,K r/\Rep (σ++ρ) w r u/\∀w',QC G σ ρ w w'->o.quietAt P a (QC G σ ρ w) w' u:=by
 have quiet:aq G so env σ K->∃r u,K r/\Rep (σ++ρ) w r u/\∀w',QC G σ ρ w w'->o.quietAt P a (QC G σ ρ w) w' u:=by
  intro h
  obtain⟨r,u,hk,hr,hrun⟩:=aq_sound rfl ht rfl hS hE h
  refine⟨r,u,hk,hr,λw' hC=>?_⟩
  unfold Oper.quietAt
  rw[hrun w' (λ_=>hC.2.2)]
  exact⟨rfl,rfl⟩
 by_cases hcall:∃f args,so= .call f args
 ·obtain⟨f,args,rfl⟩:=hcall
  cases hop:o.op with
  |call c=>
   rw[hop]at ht
   have ht:(match c.callee with
    | .builtin b=>transBuiltin P b c.args.toList c.argTypes.toList
    | .value f=>some (.call (SOpd.of f) (c.args.toList.map SOpd.of))
    | .invoke r name=>some (.invoke (SOpd.of r) name (c.args.toList.map SOpd.of)))=some (SOp.call f args):=ht
   cases hcal:c.callee with
   |invoke r m=>rw[hcal]at ht;cases ht
   |value f'=>
    rw[hcal]at ht
    cases ht
    exact qcall_sound hop hcal hS hE h
   |builtin b=>
    rw[hcal]at ht
    have ht:transBuiltin P b c.args.toList c.argTypes.toList=some (SOp.call f args):=ht
    unfold transBuiltin at ht
    split at ht
    ·split at ht<;>cases ht
    ·split at ht
     ·split at ht
      ·split at ht<;>cases ht
      ·cases ht
     ·cases ht
    ·cases ht
  |_=>exact absurd ht (transOp_call (λc e=>by rw[hop]at e;cases e) f args)
 ·refine quiet ?_
  cases so<;>first
   |exact h
   |exact absurd ⟨_,_,rfl⟩ hcall
end
end Go.Av
