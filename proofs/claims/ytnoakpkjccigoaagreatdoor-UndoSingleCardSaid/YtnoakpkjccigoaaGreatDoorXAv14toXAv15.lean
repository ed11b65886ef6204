/-
  ABSTRACT VALUES, 14: a call; all operations in one; a region; code; a function.
-/
import Derived.Test.YtnoakpkjccigoaaGreatDoorXAv13
import Derived.Deep.LoopGhost
namespace Go.Av
open Go Go.RowKit List
set_option linter.unusedSimpArgs false
set_option linter.unusedVariables false
theorem Ev.frame {σ σf σr σ':Store} {w w':World} (h:Ev σf w σ' w') (hs:Sub (σf++σr) σ):Ev σ w (σ'++σr) w' where
 os:=h.os
 tape:=h.tape
 output:=h.output
 size:=h.size
 block b hb hn:=by
  have h1:b∉σf.keys:=λhm=>hn (ct (σ:=σ) (σ':=σf++σr) hs (by rw[az];exact mem_append.2 (.inl hm)))
  have h2:b∉σr.keys:=λhm=>hn (ct (σ:=σ) (σ':=σf++σr) hs (by rw[az];exact mem_append.2 (.inr hm)))
  obtain⟨k1,k2⟩:=h.block b hb h1
  exact⟨k1,λhm=>by rw[az]at hm;exact(mem_append.1 hm).elim k2 h2⟩
 shape:=h.shape
 cell a v hv hm:=by
  have h1:¬Mut σf a.block a.off:=λm=>hm (Mut.sub hs (Mut.append.2 (.inl m)))
  have h2:¬Mut σr a.block a.off:=λm=>hm (Mut.sub hs (Mut.append.2 (.inr m)))
  obtain⟨k1,k2⟩:=h.cell a v hv h1
  exact⟨k1,λm=>(Mut.append.1 m).elim k2 h2⟩
section
variable {G:Glob} {P:Program} {σ ρ:Store} {w:World} {env:Env} {a:Act} {o:Oper} {K:AV->Store->Prop} {next:Act->World->Prop} {Q:Exit->Act->World->Prop}
theorem iv {k:FuncId} {fn:Func} (hf:P.funcs[k]? =some fn) (hn:(fn.name== "runtime.NumGoroutine")=false) (hb:fn.body.isNone=false) (args:Array Value) (w':World):
  (callFunc k args).run P w'= .ok (.enter k args) w':=by
 have hn':¬fn.name= "runtime.NumGoroutine" :=by simpa using hn
 have hb':¬fn.body=none:=by intro e;simp[e]at hb
 simp[callFunc,hf,hn',hb']
theorem run_call {c:Call} {f:Operand} {k:FuncId} {first cap:Array Value} {fn:Func} (ho:o.op= .call c) (hc:c.callee= .value f) (hv:a.eval f= .func (.func k) first cap)
  (hf:P.funcs[k]? =some fn) (hn:(fn.name== "runtime.NumGoroutine")=false) (hb:fn.body.isNone=false) (w':World):
  (execOp a.eval o).run P w'= .ok (.enter k (first++c.args.map a.eval++cap)) w':=by
 obtain⟨callee,args,argTypes⟩:=c
 simp only at hc
 subst hc
 simp[execOp,ho,resolve,hv,Deferred.ofValue,invoke,iv hf hn hb]
theorem lP {first cap:Array Value} {args:Array Operand} {args':List AV} {τ:Store} (hS:Sat G τ w) (hE:∀j,Rep τ w (env.get j) (a.tmps.getD j undef)) (hle:ax ((args.toList.map SOpd.of).map (·.eval G env)) args'):
  RepL τ w (first.toList.map AV.ofValue++args'++cap.toList.map AV.ofValue) (first++args.map a.eval++cap).toList:=by
 simp only[Array.toList_append,Array.toList_map]
 exact RepL.append (RepL.append (RepL.ofValues τ w _) (hle.rep (lB hS hE _))) (RepL.ofValues τ w _)
theorem e_callF {k:FuncId} {first cap:Array Value} {args:Array Operand} (hrun:∀w',(execOp a.eval o).run P w'=(callFunc k (first++args.map a.eval++cap)).run P w')
  (hS:Sat G (σ++ρ) w) (hE:∀j,Rep (σ++ρ) w (env.get j) (a.tmps.getD j undef))
  (h:kv G P (.func (.func k) first cap) ((args.toList.map SOpd.of).map (·.eval G env)) σ K) (hn:Goes G σ ρ w a o K next):o.wp P a w next Q:=by
 obtain⟨R,σf,σr,args',hspec,hle,hsub,hnd,hK⟩:=h
 have hS2:Sat G (σf++(σr++ρ)) w:=by
  have:=hS.subN ⟨hsub,hnd⟩
  rwa [append_assoc]at this
 have hsub2:Sub (σf++(σr++ρ)) (σ++ρ):=by
  intro p hp
  rw[←append_assoc]at hp
  rcases mem_append.1 hp with hp|hp
  ·exact mem_append.2 (.inl (hsub p hp))
  ·exact mem_append.2 (.inr hp)
 have hA:=RepL.sub hsub2 (lP (first:=first) (cap:=cap) (args:=args) hS hE hle)
 unfold Oper.wp
 rw[hrun]
 rcases hspec with⟨k',first',cap',hv,⟨fn,g1,g2,g3⟩,hspec⟩|⟨k',first',cap',hv,hspec⟩
 ·cases hv
  rw[iv g1 g2 g3]
  simp only[Oper.upon_enter]
  refine(hspec (σr++ρ) w _ hS2 hA).mono ?_
  rintro e w' ⟨v,r,σ',rfl,hR,s1,ev,rr⟩
  rw[←append_assoc]at s1 rr
  exact hn v r (σ'++σr) w' (hK r σ' hR s1.nodup_left) s1 (ev.frame hsub) rr
 ·cases hv
  obtain⟨v,r,σ',w',hr,hR,s1,ev,rr⟩:=hspec (σr++ρ) w _ hS2 hA
  rw[hr]
  simp only[Oper.upon_value]
  rw[←append_assoc]at s1 rr
  exact hn v r (σ'++σr) w' (hK r σ' hR s1.nodup_left) s1 (ev.frame hsub) rr
theorem kv.func {f:Value} {args:List AV} (h:kv G P f args σ K):∃k first cap,f= .func (.func k) first cap:=by
 obtain⟨_,_,_,_,⟨k,first,cap,hv,_⟩|⟨k,first,cap,hv,_⟩,_⟩:=h
 ·exact⟨k,first,cap,hv⟩
 ·exact⟨k,first,cap,hv⟩
theorem e_call {c:Call} {f:Operand} (ho:o.op= .call c) (hc:c.callee= .value f) (hS:Sat G (σ++ρ) w) (hE:∀j,Rep (σ++ρ) w (env.get j) (a.tmps.getD j undef))
  (h:scX ((SOpd.of f).eval G env) λv=>kv G P v ((c.args.toList.map SOpd.of).map (·.eval G env)) σ K) (hn:Goes G σ ρ w a o K next):o.wp P a w next Q:=by
 have hf:=ao (G:=G) hS hE f
 unfold scX at h
 split at h
 ·rename_i v he
  rw[he]at hf
  simp only[Rep]at hf
  obtain⟨k,first,cap,rfl⟩:=h.func
  refine e_callF (args:=c.args) (λw'=>?_) hS hE h hn
  obtain⟨callee,args,argTypes⟩:=c
  simp only at hc
  subst hc
  simp[execOp,ho,resolve,hf,Deferred.ofValue,invoke]
 ·exact h.elim
theorem e_invoke {c:Call} {x:Operand} {name:String} (ho:o.op= .call c) (hc:c.callee= .invoke x name) (hS:Sat G (σ++ρ) w) (hE:∀j,Rep (σ++ρ) w (env.get j) (a.tmps.getD j undef))
  (h:scX ((SOpd.of x).eval G env) λv=>AInv G P v name ((c.args.toList.map SOpd.of).map (·.eval G env)) σ K) (hn:Goes G σ ρ w a o K next):o.wp P a w next Q:=by
 have hf:=ao (G:=G) hS hE x
 unfold scX at h
 split at h
 ·rename_i v he
  rw[he]at hf
  simp only[Rep]at hf
  obtain⟨k,rv,hm,h⟩:=h
  refine e_callF (args:=c.args) (λw'=>?_) hS hE h hn
  obtain⟨callee,args,argTypes⟩:=c
  simp only at hc
  subst hc
  have h1:(#[v]++args.map a.eval).extract 1 (#[v]++args.map a.eval).size=args.map a.eval:=by
   apply Array.ext'
   simp
   rw[take_of_length_le (by simp)]
  have h2:(#[v]++args.map a.eval)[0]? =some v:=by rw[Array.getElem?_append_left (show 0<1 by omega)];rfl
  have h3:(execOp a.eval o).run P w'=(callMethod v name (args.map a.eval)).run P w':=by
   have h4:execOp a.eval o=callMethod v name (args.map a.eval):=by
    unfold execOp
    rw[ho]
    show(do let d ←resolve a.eval {callee:=.invoke x name,args:=args,argTypes:=argTypes} o.type;invoke d.target d.args)=_
    show(pure _>>=_)=_
    rw[pure_bind]
    show (do let some recv := (#[a.eval x] ++ args.map a.eval)[0]? | stuck "call: a method without a receiver"
             callMethod recv name ((#[a.eval x] ++ args.map a.eval).extract 1 (#[a.eval x] ++ args.map a.eval).size)) = _
    rw[hf,h2,h1]
   rw[h4]
  rw[h3,hm]
  simp
 ·exact h.elim
theorem gx {op:Op} {so:SOp} (ho:o.op=op) (ht:bQ P op=some so) (hS:Sat G (σ++ρ) w) (hE:∀j,Rep (σ++ρ) w (env.get j) (a.tmps.getD j undef)) (h:aop G P so env σ K)
  (hn:Goes G σ ρ w a o K next):o.wp P a w next Q:=by
 have quiet:(aop G P so env σ K=aq G so env σ λr=>K r σ)->o.wp P a w next Q:=λe=>e_quiet ho ht hS hE (by rw[e]at h;exact h) hn
 cases op with
 |alloc e=>
  have ht:(cK P e).map (.alloc e ·)=some so:=ht
  obtain⟨z,hz,rfl⟩:=Option.map_eq_some_iff.1 ht
  exact e_alloc ho hz hS h hn
 |box e x=>
  have ht:(bj P e).map (.box e · (SOpd.of x))=some so:=ht
  obtain⟨z,hz,rfl⟩:=Option.map_eq_some_iff.1 ht
  exact e_box ho hS hE h hn
 |store t x y=>
  have ht:(bj P t).map (.store · (SOpd.of x) (SOpd.of y))=some so:=ht
  obtain⟨z,hz,rfl⟩:=Option.map_eq_some_iff.1 ht
  exact e_store ho hz hS hE h hn
 |buildSlice t len parts=>
  have ht:cZ P t len parts=some so:=ht
  unfold cZ at ht
  split at ht
  ·rename_i e hu
   split at ht
   ·rename_i n z hsz hz
    split at ht
    ·rename_i hc
     cases ht
     simp at hc
     exact e_buildS ho hu hsz hz hc.1.1 hc.1.2 hc.2 hS hE h hn
    ·cases ht
   ·cases ht
  ·cases ht
 |call c=>
  cases hcal:c.callee with
  |invoke r m=>
   have ht:(match c.callee with
    | .builtin b=>bC P b c.args.toList c.argTypes.toList
    | .value f=>some (.call (SOpd.of f) (c.args.toList.map SOpd.of))
    | .invoke r name=>some (.invoke (SOpd.of r) name (c.args.toList.map SOpd.of)))=some so:=ht
   rw[hcal]at ht
   cases ht
   exact e_invoke ho hcal hS hE h hn
  |value f=>
   have ht:(match c.callee with
    | .builtin b=>bC P b c.args.toList c.argTypes.toList
    | .value f=>some (.call (SOpd.of f) (c.args.toList.map SOpd.of))
    | .invoke r name=>some (.invoke (SOpd.of r) name (c.args.toList.map SOpd.of)))=some so:=ht
   rw[hcal]at ht
   cases ht
   exact e_call ho hcal hS hE h hn
  |builtin b=>
   have ht':(match c.callee with
    | .builtin b=>bC P b c.args.toList c.argTypes.toList
    | .value f=>some (.call (SOpd.of f) (c.args.toList.map SOpd.of))
    | .invoke r name=>some (.invoke (SOpd.of r) name (c.args.toList.map SOpd.of)))=some so:=ht
   rw[hcal]at ht'
   have ht':bC P b c.args.toList c.argTypes.toList=some so:=ht'
   unfold bC at ht'
   split at ht'
   ·split at ht'
    ·cases ht';exact quiet rfl
    ·cases ht';exact quiet rfl
    ·cases ht'
   ·rename_i x y t tx e1 e2 _e3
    split at ht'
    ·rename_i e e' hu hk
     split at ht'
     ·rename_i i z hi hz
      split at ht'
      ·rename_i hcnd
       cases ht'
       simp at hcnd
       exact e_append (rest:=c) ho hcal (by apply Array.ext';simpa using e1) (by apply Array.ext';simpa using e2) hu hk hi hz hcnd.1.1 hcnd.1.2 hcnd.2 hS hE h hn
      ·cases ht'
     ·cases ht'
    ·cases ht'
   ·cases ht'
 |move x=>cases ht;exact quiet rfl
 |assign x=>cases ht;exact quiet rfl
 |pick c x y=>cases ht;exact quiet rfl
 |nilCheck x=>cases ht;exact quiet rfl
 |extract x i=>cases ht;exact quiet rfl
 |makeInterface t x=>
  have ht:fj P t x=some so:=ht
  unfold fj at ht
  split at ht
  ·cases ht
  ·cases ht;exact quiet rfl
  ·cases ht
 |makeFunc fn first cap=>cases ht;exact quiet rfl
 |load t x=>
  have ht:da P t x=some so:=ht
  unfold da at ht
  split at ht
  ·split at ht
   ·cases ht;exact quiet rfl
   ·cases ht
  ·cases ht
 |build t parts=>
  have ht:dA P t parts=some so:=ht
  unfold dA at ht
  split at ht
  ·split at ht
   ·cases ht
   obtain⟨sp,hm,rfl⟩:=Option.map_eq_some_iff.1 ht
   exact quiet rfl
  ·cases ht
 |fieldAddr t x i=>
  have ht:bM P t x i=some so:=ht
  unfold bM at ht
  split at ht
  ·split at ht
   ·split at ht
    ·cases ht;exact quiet rfl
    ·cases ht
   ·cases ht
  ·cases ht
 |indexAddr t x i=>
  have ht:cY P t x i=some so:=ht
  unfold cY at ht
  split at ht
  ·obtain⟨n,hn,rfl⟩:=Option.map_eq_some_iff.1 ht;exact quiet rfl
  ·obtain⟨n,hn,rfl⟩:=Option.map_eq_some_iff.1 ht;exact quiet rfl
  ·cases ht
 |index t x i=>
  have ht:dw P t x i=some so:=ht
  unfold dw at ht
  split at ht
  ·cases ht;exact quiet rfl
  ·cases ht
 |slice t x lo hi mx=>
  cases mx with
  |some m=>cases ht
  |none=>
   have ht:dz P t x lo hi=some so:=ht
   unfold dz at ht
   split at ht
   ·obtain⟨n,hn,rfl⟩:=Option.map_eq_some_iff.1 ht;exact quiet rfl
   ·cases ht;exact quiet rfl
   ·cases ht
 |field t x i=>
  have ht:dE P t x i=some so:=ht
  unfold dE at ht
  split at ht
  ·split at ht
   ·split at ht
    ·split at ht
     ·cases ht;exact quiet rfl
     ·cases ht
    ·cases ht
   ·cases ht
  ·cases ht
 |binOp op t x y u=>
  have ht:eY P op t x y=some so:=ht
  unfold eY at ht
  split at ht
  ·split at ht
   ·cases ht;exact quiet rfl
   ·cases ht
  ·split at ht
   ·cases ht;exact quiet rfl
   ·cases ht
  ·obtain⟨n,hn,rfl⟩:=Option.map_eq_some_iff.1 ht;exact quiet rfl
  ·split at ht
   ·split at ht
    ·cases ht
    obtain⟨n,hn,rfl⟩:=Option.map_eq_some_iff.1 ht;exact quiet rfl
   ·cases ht
  ·split at ht
   ·obtain⟨n,hn,rfl⟩:=Option.map_eq_some_iff.1 ht;exact quiet rfl
   ·cases ht
  ·cases ht
 |unOp op t x=>
  cases op<;>first
   |(cases ht;done)
   |(cases ht;exact quiet rfl)
 |convert s d x=>
  have ht:ee P s d x=some so:=ht
  unfold ee at ht
  split at ht
  ·cases ht;exact quiet rfl
  ·cases ht;exact quiet rfl
  ·cases ht
 |_=>cases ht
end
theorem Env.get_set (v:AV) (d:Nat):∀(env:Env) (j:Nat),(env.set d v).get j=if d=j then v else env.get j
 |[],j=>by simp[Env.set,Env.get]
 |(k,x)::e,j=>by
  simp only[Env.set]
  by_cases hk:k=d
  ·subst hk
   simp only[if_true,Env.get]
   split<;>rfl
  ·simp only[hk,if_false,Env.get,Env.get_set v d e j]
   by_cases hkj:k=j
   ·subst hkj
    have:¬d=k:=λe=>hk e.symm
    simp[this]
   ·simp[hkj]
theorem Env.get_keep (ks:List Nat):∀(env:Env) (j:Nat),(env.keep ks).get j= .any\/(env.keep ks).get j=env.get j
 |[],j=>.inr rfl
 |(k,x)::e,j=>by
  simp only[Env.keep,filter_cons]
  by_cases hk:ks.contains k=true
  ·simp only[hk,if_true,Env.get]
   by_cases hkj:k=j
   ·simp[hkj]
   ·simp only[hkj,if_false];exact Env.get_keep ks e j
  ·simp only[hk,Env.get]
   by_cases hkj:k=j
   ·left
    subst hkj
    have key:∀e:Env,Env.get (e.filter λp=>ks.contains p.1) k= .any:=by
     intro e
     induction e with
     |nil=>rfl
     |cons p e ih=>
      simp only[filter_cons]
      split
      ·rename_i hp
       simp only[Env.get]
       split
       ·rename_i hpk;rw[hpk]at hp;exact absurd hp hk
       ·exact ih
      ·exact ih
    exact key e
   ·simp only[hkj,if_false];exact Env.get_keep ks e j
structure St (G:Glob) (ρ:Store) (w0:World) (σ0:Store) (n:Nat) (env:Env) (σ:Store) (a:Act) (w:World):Prop where
 sat:Sat G (σ++ρ) w
 ev:Ev σ0 w0 σ w
 env:∀j,Rep (σ++ρ) w (env.get j) (a.tmps.getD j undef)
 size:n<=a.tmps.size
 defers:a.defers=[]
section
variable {G:Glob} {P:Program} {ρ:Store} {w0:World} {σ0:Store} {n:Nat}
theorem k8 (a:Act) (d:Option Tmp) (v:Value):(a.put d v).tmps.size=a.tmps.size:=by
 cases d<;>simp[Act.put]
theorem g8 (a:Act) (d:Option Tmp) (v:Value):(a.put d v).defers=a.defers:=by
 cases d<;>simp[Act.put]
theorem mg {τ:Store} {w:World} {env:Env} {a:Act} {d:Option Nat} {r:AV} {v:Value} (hE:∀j,Rep τ w (env.get j) (a.tmps.getD j undef)) (hd:dr n d=true) (hs:n<=a.tmps.size)
  (hr:Rep τ w r v):∀j,Rep τ w ((env.put d r).get j) ((a.put d v).tmps.getD j undef):=by
 intro j
 cases d with
 |none=>exact hE j
 |some d=>
  simp only[dr,decide_eq_true_eq]at hd
  simp only[Env.put,Act.put,Env.get_set]
  by_cases hj:d=j
  ·subst hj
   have:(a.tmps.setIfInBounds d v).getD d undef=v:=by
    rw[Array.getD_eq_getD_getElem?,Array.getElem?_setIfInBounds]
    simp[show d<a.tmps.size by omega]
   rw[this];simpa using hr
  ·have:(a.tmps.setIfInBounds d v).getD j undef=a.tmps.getD j undef:=by
    rw[Array.getD_eq_getD_getElem?,Array.getD_eq_getD_getElem?,Array.getElem?_setIfInBounds]
    simp[hj]
   rw[this];simpa[hj]using hE j
theorem mr {τ:Store} {w:World} {env:Env} {a:Act} {j:Nat} {b:Bool} (hE:∀j,Rep τ w (env.get j) (a.tmps.getD j undef)) (hj:env.get j= .bool b):
  ∀i,Rep τ w ((env.set j (.bool b)).get i) (a.tmps.getD i undef):=by
 intro i
 rw[Env.get_set]
 by_cases h:j=i
 ·subst h;rw[←hj];simpa using hE j
 ·simpa[h]using hE i
theorem cg (τ:Store) (w:World):Rep τ w aC undef:=by
 simp only[aC,Rep];exact⟨#[],rfl,by simp[RepL]⟩
theorem cC {ops:Array Oper} {o:Oper} {tmps:Array Value} (h:o.guard=none):Region.wanted o (yielded ops tmps)=true:=by
 simp[Region.wanted,h]
theorem bE {τ:Store} {w:World} {env:Env} {ops:Array Oper} {o:Oper} {a:Act} {j d:Nat} {want b:Bool} (h:o.guard=some (j,want)) (hd:(ops[j]?).bind (·.dst)=some d)
  (hE:∀j,Rep τ w (env.get j) (a.tmps.getD j undef)) (hb:env.get d= .bool b):Region.wanted o (yielded ops a.tmps)=(b==want):=by
 have h1:=hE d
 rw[hb]at h1
 simp only[Rep]at h1
 have h2:a.tmps[d]? =some (.bool b):=by
  rw[Array.getD_eq_getD_getElem?]at h1
  cases hx:a.tmps[d]? with
  |none=>rw[hx]at h1;simp[undef]at h1
  |some x=>rw[hx]at h1;simp at h1;rw[h1]
 simp only[Region.wanted,h,yielded,hd,Option.bind_some,h2]
 cases b<;>cases want<;>rfl
theorem cr {τ:Store} {w:World} {env:Env} {ops:Array Oper} {o:Oper} {a:Act} {j d:Nat} {want:Bool} (h:o.guard=some (j,want)) (hd:(ops[j]?).bind (·.dst)=some d)
  (hE:∀j,Rep τ w (env.get j) (a.tmps.getD j undef)) (hb:env.get d= .tup []):Region.wanted o (yielded ops a.tmps)=false:=by
 have h1:=hE d
 rw[hb]at h1
 simp only[Rep]at h1
 obtain⟨vs,h1,_⟩:=h1
 simp only[Region.wanted,h,yielded,hd,Option.bind_some]
 rw[Array.getD_eq_getD_getElem?]at h1
 cases hx:a.tmps[d]? with
 |none=>rfl
 |some x=>rw[hx]at h1;simp at h1;subst h1;rfl
theorem bI {ops:Array Oper} {j:Nat} {b:Bool} {g:Option (Nat×Bool)} (h:ej ops (some (j,b))=some g):∃d,(ops[j]?).bind (·.dst)=some d/\g=some (d,b):=by
 simp only[ej]at h
 obtain⟨d,hd,rfl⟩:=Option.map_eq_some_iff.1 h
 exact⟨d,hd,rfl⟩
theorem St.put {env:Env} {σ σ':Store} {a:Act} {w w':World} {d:Option Nat} {r:AV} {v:Value} (h:St G ρ w0 σ0 n env σ a w) (hd:dr n d=true) (hs:Sat G (σ'++ρ) w') (he:Ev σ w σ' w')
  (hr:Rep (σ'++ρ) w' r v):St G ρ w0 σ0 n (env.put d r) σ' (a.put d v) w' where
 sat:=hs
 ev:=h.ev.trans he
 env:=mg (λj=>Rep.ev he _ _ (h.env j)) hd h.size hr
 size:=by rw[k8];exact h.size
 defers:=by rw[g8];exact h.defers
theorem St.set {env:Env} {σ:Store} {a:Act} {w:World} {j:Nat} {b:Bool} (h:St G ρ w0 σ0 n env σ a w) (hj:env.get j= .bool b):St G ρ w0 σ0 n (env.set j (.bool b)) σ a w:=
 {h with env:=mr h.env hj}
theorem St.weak {env env':Env} {σ σ':Store} {a:Act} {w:World} (h:St G ρ w0 σ0 n env σ a w) (hw:Weak G env σ env' σ'):St G ρ w0 σ0 n env' σ' a w:=by
 obtain⟨h1,h2,h3⟩:=hw ρ w a.tmps h.sat h.env
 exact{h with sat:=h1,ev:=h.ev.trans h2,env:=h3}
theorem St.keep {env:Env} {σ:Store} {a:Act} {w:World} (ks:List Nat) (h:St G ρ w0 σ0 n env σ a w):St G ρ w0 σ0 n (env.keep ks) σ a w:=
 ⟨h.sat,h.ev,λj=>by
   rcases Env.get_keep ks env j with e|e
   ·rw[e];simp only[Rep]
   ·rw[e];exact h.env j,h.size,h.defers⟩
theorem dH {ro:Nat->Bool} {ops:Array Oper} {o:Oper} {l:List Oper} {sl:List SOper} (h:ci P n ro ops (o::l)=some sl):
  ∃so g rest,(bQ P o.op=some so\/so= .raw o.op\/∃e x m,o.op= .box e x/\bj P e=some m/\so= .boxR m (SOpd.of x))/\ej ops o.guard=some g/\dr n o.dst=true/\ci P n ro ops l=some rest/\sl=⟨o.dst,g,so⟩::rest:=by
 simp only[ci]at h
 split at h
 ·rename_i so sos h1 h2
  cases h
  unfold d9 at h1
  split at h1
  ·rename_i g e2 e3
   cases h1
   refine⟨_,g,sos,?_,e2,e3,h2,rfl⟩
   have base:∀y,y=(bQ P o.op).getD (.raw o.op)->(bQ P o.op=some y\/y= .raw o.op\/∃e x m,o.op= .box e x/\bj P e=some m/\y= .boxR m (SOpd.of x)):=by
    rintro y rfl
    cases bQ P o.op with
    |none=>exact .inr (.inl rfl)
    |some so=>exact .inl rfl
   unfold roBox
   split
   ·rename_i e x d ho hd
    split
    ·split
     ·rename_i m hm
      exact .inr (.inr ⟨e,x,m,ho,hm,rfl⟩)
     ·exact base _ rfl
    ·exact base _ rfl
   ·split
    ·exact .inr (.inl rfl)
    ·exact base _ rfl
   ·exact base _ rfl
  ·cases h1
 ·cases h
theorem cP {ro:Nat->Bool} {ops:Array Oper} {Q:Exit->Act->World->Prop} {K:Env->Store->Prop} (hK:∀env σ a w,K env σ->St G ρ w0 σ0 n env σ a w->Q .normal a w):
  ∀(l:List Oper) (sl:List SOper) (env:Env) (σ:Store) (a:Act) (w:World),ci P n ro ops l=some sl->srun G P sl env σ K->St G ρ w0 σ0 n env σ a w->wpList P ops Q l a w
 |[],sl,env,σ,a,w,ht,h,st=>by cases ht;exact hK _ _ _ _ h st
 |o::l,sl,env,σ,a,w,ht,h,st=>by
  obtain⟨so,g,rest,e1,e2,e3,e4,rfl⟩:=dH ht
  have go:∀env,aop G P so env σ (λr σ'=>srun G P rest (env.put o.dst r) σ' K)->St G ρ w0 σ0 n env σ a w->o.wp P a w (wpList P ops Q l) Q:=λenv h st=>
   e1.elim (λe1=>gx rfl e1 st.sat st.env h λv r σ' w' hk hs he hr=>cP hK l rest _ _ _ _ e4 hk (st.put e3 hs he hr)) λe=>by
    rcases e with e|⟨t,x,m,ho,hm,e⟩
    rotate_left
    ·rw[e]at h
     exact mR (n:=m) (K:=λr σ'=>srun G P rest (env.put o.dst r) σ' K) ho st.sat st.env h λv r σ' w' hk hs he hr=>cP hK l rest _ _ _ _ e4 hk (st.put e3 hs he hr)
    rw[e]at h
    obtain⟨v,w',r,σ',hr,hk,hs,he,hrep⟩:=h ρ w a o rfl st.sat st.env
    rcases hr with hr|⟨hr,rfl⟩
    ·exact bF hr (cP hK l rest _ _ _ _ e4 hk (st.put e3 hs he hrep))
    ·exact eB hr (cP hK l rest _ _ _ _ e4 hk (st.put e3 hs he hrep))
  have skip:∀env,srun G P rest (env.put o.dst aC) σ K->St G ρ w0 σ0 n env σ a w->wpList P ops Q l (a.put o.dst undef) w:=λenv h st=>
   cP hK l rest _ _ _ _ e4 h (st.put e3 st.sat (Ev.refl σ w) (cg _ w))
  cases hg:o.guard with
  |none=>
   rw[hg]at e2
   cases e2
   simp only[wpList]
   rw[if_pos (cC hg)]
   exact .inl (go env h st)
  |some jb=>
   obtain⟨j,want⟩:=jb
   rw[hg]at e2
   obtain⟨d,hd,rfl⟩:=bI e2
   have h:gd (env.get d) want (aop G P so (env.set d (.bool want)) σ λr σ'=>srun G P rest ((env.set d (.bool want)).put o.dst r) σ' K)
    (srun G P rest ((env.set d (.bool (!want))).put o.dst aC) σ K) (srun G P rest (env.put o.dst aC) σ K):=h
   unfold gd at h
   simp only[wpList]
   split at h
   ·rename_i b hb
    rw[bE hg hd st.env hb]
    by_cases hbw:b=want
    ·subst hbw
     simp only[BEq.rfl,if_true]
     exact .inl (go _ (h.1 rfl) (st.set hb))
    ·have hbn:b= !want:=by cases b<;>cases want<;>simp_all
     have:(b==want)=false:=by simpa using hbw
     simp only[this]
     exact skip _ (h.2 hbn) (st.set (by rw[hb,hbn]))
   ·rename_i hb
    rw[cr hg hd st.env hb]
    exact skip _ h st
   ·exact h.elim
theorem Rep.rigid {τ:Store} {w:World} {r:AV} {u v:Value} (h:Rep τ w r u) (hr:r.rigid=some v):u=v:=by
 cases r<;>simp only[AV.rigid]at hr<;>first
  |(cases hr;done)
  |(cases hr;simpa only[Rep]using h)
theorem Rep.of_rigid {τ:Store} {w:World} {r:AV} {v:Value} (hr:r.rigid=some v):Rep τ w r v:=by
 cases r<;>simp only[AV.rigid]at hr<;>first
  |(cases hr;done)
  |(cases hr;simp only[Rep])
theorem Same.trans {w w1 w2:World} (h:Same w w1) (k:Same w1 w2):Same w w2:=
 ⟨Nat.le_trans h.1 k.1,λb hb=>(k.2 b (Nat.lt_of_lt_of_le hb h.1)).trans (h.2 b hb)⟩
def QC (G:Glob) (σ ρ:Store) (w w':World):Prop:=Sat G (σ++ρ) w'/\Ev σ w σ w'/\Same w w'
theorem nx {env:Env} {σ:Store} {a:Act} {w:World} {o:Oper} {c:Call} {f:Operand} {K:AV->Prop} (ho:o.op= .call c) (hc:c.callee= .value f)
  (hS:Sat G (σ++ρ) w) (hE:∀j,Rep (σ++ρ) w (env.get j) (a.tmps.getD j undef))
  (h:scX ((SOpd.of f).eval G env) λv=>AQCall G P v ((c.args.toList.map SOpd.of).map (·.eval G env)) K):
  ∃r u,K r/\Rep (σ++ρ) w r u/\∀w',QC G σ ρ w w'->o.quietAt P a (QC G σ ρ w) w' u:=by
 have hf:=ao (G:=G) hS hE f
 unfold scX at h
 split at h
 ·rename_i v he
  rw[he]at hf
  simp only[Rep]at hf
  obtain⟨r,args',hrig,⟨k,first,cap,hv,⟨fn,g1,g2,g3⟩,hspec⟩,hle,hK⟩:=h
  subst hv
  obtain⟨u,hu⟩:=Option.isSome_iff_exists.1 hrig
  refine⟨r,u,hK,Rep.of_rigid hu,λw' hC=>?_⟩
  obtain⟨c1,c2,c3⟩:=hC
  have hrun:=run_call (P:=P) (w':=w') ho hc hf g1 g2 g3
  have hA:=lP (first:=first) (cap:=cap) (args:=c.args) c1 (λj=>Rep.ev c2 _ _ (hE j)) hle
  unfold Oper.quietAt
  rw[hrun]
  refine⟨rfl,?_⟩
  refine(hspec (σ++ρ) w' (first++c.args.map a.eval++cap) (by simpa using c1) hA).mono ?_
  rintro e w'' ⟨v',r',σ',rfl,⟨rfl,rfl⟩,s1,ev,rr⟩
  refine⟨by rw[Rep.rigid rr hu],by simpa using s1,c2.trans ?_,c3.trans ⟨ev.size,λb hb=>(ev.block b hb (by simp[Store.keys])).1⟩⟩
  have:=ev.frame (σ:=σ) (σr:=σ) (by intro p hp;simpa using hp)
  simpa using this
 ·exact h.elim
theorem mT {op:Op} (hn:∀c,op≠ .call c) (f:SOpd) (args:List SOpd):bQ P op≠some (.call f args):=by
 intro ht
 cases op with
 |call c=>exact hn c rfl
 |_=>first
  |(cases ht;done)
  |(simp only[bQ,da,dA,bM,cY,dw,dz,dE,eY,ee,cZ,fj]at ht
    repeat' split at ht
    all_goals simp_all)
theorem aqc_sound {env:Env} {σ:Store} {a:Act} {w:World} {o:Oper} {so:SOp} {K:AV->Prop} (ht:bQ P o.op=some so) (hS:Sat G (σ++ρ) w)
  (hE:∀j,Rep (σ++ρ) w (env.get j) (a.tmps.getD j undef)) (h:aqc G P so env σ K):
  ∃r u,K r/\Rep (σ++ρ) w r u/\∀w',QC G σ ρ w w'->o.quietAt P a (QC G σ ρ w) w' u:=by
 have quiet:aq G so env σ K->∃r u,K r/\Rep (σ++ρ) w r u/\∀w',QC G σ ρ w w'->o.quietAt P a (QC G σ ρ w) w' u:=by
  intro h
  obtain⟨r,u,hk,hr,hrun⟩:=dg rfl ht rfl hS hE h
  refine⟨r,u,hk,hr,λw' hC=>?_⟩
  unfold Oper.quietAt
  rw[hrun w' (λ_=>hC.2.2)]
  exact⟨rfl,rfl⟩
 by_cases hcall:∃f args,so= .call f args
 ·obtain⟨f,args,rfl⟩:=hcall
  cases hop:o.op with
  |call c=>
   rw[hop]at ht
   have ht:(match c.callee with
    | .builtin b=>bC P b c.args.toList c.argTypes.toList
    | .value f=>some (.call (SOpd.of f) (c.args.toList.map SOpd.of))
    | .invoke r name=>some (.invoke (SOpd.of r) name (c.args.toList.map SOpd.of)))=some (SOp.call f args):=ht
   cases hcal:c.callee with
   |invoke r m=>rw[hcal]at ht;cases ht
   |value f'=>
    rw[hcal]at ht
    cases ht
    exact nx hop hcal hS hE h
   |builtin b=>
    rw[hcal]at ht
    have ht:bC P b c.args.toList c.argTypes.toList=some (SOp.call f args):=ht
    unfold bC at ht
    split at ht
    ·split at ht<;>cases ht
    ·split at ht
     ·split at ht
      ·split at ht<;>cases ht
      ·cases ht
     ·cases ht
    ·cases ht
  |_=>exact absurd ht (mT (λc e=>by rw[hop]at e;cases e) f args)
 ·refine quiet ?_
  cases so<;>first
   |exact h
   |exact absurd ⟨_,_,rfl⟩ hcall
end
end Go.Av
