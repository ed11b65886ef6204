/-
  ABSTRACT VALUES, 14: a call; all operations in one; a region; code; a function.
-/
import Derived.Test.YtepngejmjdgccaaGreatDoorXAv13
import Derived.Deep.LoopGhost
namespace Go.Av
open Go Go.RowKit
set_option linter.unusedSimpArgs false
set_option linter.unusedVariables false
theorem Ev.frame {σ σf σr σ':Store} {w w':World} (h:Ev σf w σ' w') (hs:Sub (σf++σr) σ):Ev σ w (σ'++σr) w' where
 os:=h.os
 tape:=h.tape
 output:=h.output
 size:=h.size
 block b hb hn:=by
  have h1:b∉σf.keys:=λhm=>hn (keys_sub (σ:=σ) (σ':=σf++σr) hs (by rw[keys_append];exact List.mem_append.2 (.inl hm)))
  have h2:b∉σr.keys:=λhm=>hn (keys_sub (σ:=σ) (σ':=σf++σr) hs (by rw[keys_append];exact List.mem_append.2 (.inr hm)))
  obtain⟨k1,k2⟩:=h.block b hb h1
  exact⟨k1,λhm=>by rw[keys_append]at hm;exact(List.mem_append.1 hm).elim k2 h2⟩
 shape:=h.shape
 cell a v hv hm:=by
  have h1:¬Mut σf a.block a.off:=λm=>hm (Mut.sub hs (Mut.append.2 (.inl m)))
  have h2:¬Mut σr a.block a.off:=λm=>hm (Mut.sub hs (Mut.append.2 (.inr m)))
  obtain⟨k1,k2⟩:=h.cell a v hv h1
  exact⟨k1,λm=>(Mut.append.1 m).elim k2 h2⟩
section
variable {G:Glob} {P:Program} {σ ρ:Store} {w:World} {env:Env} {a:Act} {o:Oper} {K:AV->Store->Prop} {next:Act->World->Prop} {Q:Exit->Act->World->Prop}
theorem run_callFunc {k:FuncId} {fn:Func} (hf:P.funcs[k]? =some fn) (hn:(fn.name== "runtime.NumGoroutine")=false) (hb:fn.body.isNone=false) (args:Array Value) (w':World):
  (callFunc k args).run P w'= .ok (.enter k args) w':=by
 have hn':¬fn.name= "runtime.NumGoroutine" :=by simpa using hn
 have hb':¬fn.body=none:=by intro e;simp[e]at hb
 simp[callFunc,hf,hn',hb']
theorem run_call {c:Call} {f:Operand} {k:FuncId} {first cap:Array Value} {fn:Func} (ho:o.op= .call c) (hc:c.callee= .value f) (hv:a.eval f= .func (.func k) first cap)
  (hf:P.funcs[k]? =some fn) (hn:(fn.name== "runtime.NumGoroutine")=false) (hb:fn.body.isNone=false) (w':World):
  (execOp a.eval o).run P w'= .ok (.enter k (first++c.args.map a.eval++cap)) w':=by
 obtain⟨callee,args,argTypes⟩:=c
 simp only at hc
 subst hc
 simp[execOp,ho,resolve,hv,Deferred.ofValue,invoke,run_callFunc hf hn hb]
theorem call_args {first cap:Array Value} {args:Array Operand} {args':List AV} {τ:Store} (hS:Sat G τ w) (hE:∀j,Rep τ w (env.get j) (a.tmps.getD j undef)) (hle:AVleA ((args.toList.map SOpd.of).map (·.eval G env)) args'):
  RepL τ w (first.toList.map AV.ofValue++args'++cap.toList.map AV.ofValue) (first++args.map a.eval++cap).toList:=by
 simp only[Array.toList_append,Array.toList_map]
 exact RepL.append (RepL.append (RepL.ofValues τ w _) (hle.rep (evalL_rep hS hE _))) (RepL.ofValues τ w _)
theorem e_callF {k:FuncId} {first cap:Array Value} {args:Array Operand} (hrun:∀w',(execOp a.eval o).run P w'=(callFunc k (first++args.map a.eval++cap)).run P w')
  (hS:Sat G (σ++ρ) w) (hE:∀j,Rep (σ++ρ) w (env.get j) (a.tmps.getD j undef))
  (h:ACall G P (.func (.func k) first cap) ((args.toList.map SOpd.of).map (·.eval G env)) σ K) (hn:Goes G σ ρ w a o K next):o.wp P a w next Q:=by
 obtain⟨R,σf,σr,args',hspec,hle,hsub,hnd,hK⟩:=h
 have hS2:Sat G (σf++(σr++ρ)) w:=by
  have:=hS.subN ⟨hsub,hnd⟩
  rwa [List.append_assoc]at this
 have hsub2:Sub (σf++(σr++ρ)) (σ++ρ):=by
  intro p hp
  rw[←List.append_assoc]at hp
  rcases List.mem_append.1 hp with hp|hp
  ·exact List.mem_append.2 (.inl (hsub p hp))
  ·exact List.mem_append.2 (.inr hp)
 have hA:=RepL.sub hsub2 (call_args (first:=first) (cap:=cap) (args:=args) hS hE hle)
 unfold Oper.wp
 rw[hrun]
 rcases hspec with⟨k',first',cap',hv,⟨fn,g1,g2,g3⟩,hspec⟩|⟨k',first',cap',hv,hspec⟩
 ·cases hv
  rw[run_callFunc g1 g2 g3]
  simp only[Oper.upon_enter]
  refine(hspec (σr++ρ) w _ hS2 hA).mono ?_
  rintro e w' ⟨v,r,σ',rfl,hR,s1,ev,rr⟩
  rw[←List.append_assoc]at s1 rr
  exact hn v r (σ'++σr) w' (hK r σ' hR s1.nodup_left) s1 (ev.frame hsub) rr
 ·cases hv
  obtain⟨v,r,σ',w',hr,hR,s1,ev,rr⟩:=hspec (σr++ρ) w _ hS2 hA
  rw[hr]
  simp only[Oper.upon_value]
  rw[←List.append_assoc]at s1 rr
  exact hn v r (σ'++σr) w' (hK r σ' hR s1.nodup_left) s1 (ev.frame hsub) rr
theorem ACall.func {f:Value} {args:List AV} (h:ACall G P f args σ K):∃k first cap,f= .func (.func k) first cap:=by
 obtain⟨_,_,_,_,⟨k,first,cap,hv,_⟩|⟨k,first,cap,hv,_⟩,_⟩:=h
 ·exact⟨k,first,cap,hv⟩
 ·exact⟨k,first,cap,hv⟩
theorem e_call {c:Call} {f:Operand} (ho:o.op= .call c) (hc:c.callee= .value f) (hS:Sat G (σ++ρ) w) (hE:∀j,Rep (σ++ρ) w (env.get j) (a.tmps.getD j undef))
  (h:scX ((SOpd.of f).eval G env) λv=>ACall G P v ((c.args.toList.map SOpd.of).map (·.eval G env)) σ K) (hn:Goes G σ ρ w a o K next):o.wp P a w next Q:=by
 have hf:=eval_rep (G:=G) hS hE f
 unfold scX at h
 split at h
 ·rename_i v he
  rw[he]at hf
  simp only[Rep]at hf
  obtain⟨k,first,cap,rfl⟩:=h.func
  refine e_callF (args:=c.args) (λw'=>?_) hS hE h hn
  obtain⟨callee,args,argTypes⟩:=c
  simp only at hc
  subst hc
  simp[execOp,ho,resolve,hf,Deferred.ofValue,invoke]
 ·exact h.elim
theorem e_invoke {c:Call} {x:Operand} {name:String} (ho:o.op= .call c) (hc:c.callee= .invoke x name) (hS:Sat G (σ++ρ) w) (hE:∀j,Rep (σ++ρ) w (env.get j) (a.tmps.getD j undef))
  (h:scX ((SOpd.of x).eval G env) λv=>AInv G P v name ((c.args.toList.map SOpd.of).map (·.eval G env)) σ K) (hn:Goes G σ ρ w a o K next):o.wp P a w next Q:=by
 have hf:=eval_rep (G:=G) hS hE x
 unfold scX at h
 split at h
 ·rename_i v he
  rw[he]at hf
  simp only[Rep]at hf
  obtain⟨k,rv,hm,h⟩:=h
  refine e_callF (args:=c.args) (λw'=>?_) hS hE h hn
  obtain⟨callee,args,argTypes⟩:=c
  simp only at hc
  subst hc
  have h1:(#[v]++args.map a.eval).extract 1 (#[v]++args.map a.eval).size=args.map a.eval:=by
   apply Array.ext'
   simp
   rw[List.take_of_length_le (by simp)]
  have h2:(#[v]++args.map a.eval)[0]? =some v:=by rw[Array.getElem?_append_left (show 0<1 by omega)];rfl
  have h3:(execOp a.eval o).run P w'=(callMethod v name (args.map a.eval)).run P w':=by
   have h4:execOp a.eval o=callMethod v name (args.map a.eval):=by
    unfold execOp
    rw[ho]
    show(do let d ←resolve a.eval {callee:=.invoke x name,args:=args,argTypes:=argTypes} o.type;invoke d.target d.args)=_
    show(pure _>>=_)=_
    rw[pure_bind]
    show (do let some recv := (#[a.eval x] ++ args.map a.eval)[0]? | stuck "call: a method without a receiver"
             callMethod recv name ((#[a.eval x] ++ args.map a.eval).extract 1 (#[a.eval x] ++ args.map a.eval).size)) = _
    rw[hf,h2,h1]
   rw[h4]
  rw[h3,hm]
  simp
 ·exact h.elim
theorem aop_sound {op:Op} {so:SOp} (ho:o.op=op) (ht:transOp P op=some so) (hS:Sat G (σ++ρ) w) (hE:∀j,Rep (σ++ρ) w (env.get j) (a.tmps.getD j undef)) (h:aop G P so env σ K)
  (hn:Goes G σ ρ w a o K next):o.wp P a w next Q:=by
 have quiet:(aop G P so env σ K=aq G so env σ λr=>K r σ)->o.wp P a w next Q:=λe=>e_quiet ho ht hS hE (by rw[e]at h;exact h) hn
 cases op with
 |alloc e=>
  have ht:(zeroT P e).map (.alloc e ·)=some so:=ht
  obtain⟨z,hz,rfl⟩:=Option.map_eq_some_iff.1 ht
  exact e_alloc ho hz hS h hn
 |box e x=>
  have ht:(sizeT P e).map (.box e · (SOpd.of x))=some so:=ht
  obtain⟨z,hz,rfl⟩:=Option.map_eq_some_iff.1 ht
  exact e_box ho hS hE h hn
 |store t x y=>
  have ht:(sizeT P t).map (.store · (SOpd.of x) (SOpd.of y))=some so:=ht
  obtain⟨z,hz,rfl⟩:=Option.map_eq_some_iff.1 ht
  exact e_store ho hz hS hE h hn
 |buildSlice t len parts=>
  have ht:transBuildS P t len parts=some so:=ht
  unfold transBuildS at ht
  split at ht
  ·rename_i e hu
   split at ht
   ·rename_i n z hsz hz
    split at ht
    ·rename_i hc
     cases ht
     simp at hc
     exact e_buildS ho hu hsz hz hc.1.1 hc.1.2 hc.2 hS hE h hn
    ·cases ht
   ·cases ht
  ·cases ht
 |call c=>
  cases hcal:c.callee with
  |invoke r m=>
   have ht:(match c.callee with
    | .builtin b=>transBuiltin P b c.args.toList c.argTypes.toList
    | .value f=>some (.call (SOpd.of f) (c.args.toList.map SOpd.of))
    | .invoke r name=>some (.invoke (SOpd.of r) name (c.args.toList.map SOpd.of)))=some so:=ht
   rw[hcal]at ht
   cases ht
   exact e_invoke ho hcal hS hE h hn
  |value f=>
   have ht:(match c.callee with
    | .builtin b=>transBuiltin P b c.args.toList c.argTypes.toList
    | .value f=>some (.call (SOpd.of f) (c.args.toList.map SOpd.of))
    | .invoke r name=>some (.invoke (SOpd.of r) name (c.args.toList.map SOpd.of)))=some so:=ht
   rw[hcal]at ht
   cases ht
   exact e_call ho hcal hS hE h hn
  |builtin b=>
   have ht':(match c.callee with
    | .builtin b=>transBuiltin P b c.args.toList c.argTypes.toList
    | .value f=>some (.call (SOpd.of f) (c.args.toList.map SOpd.of))
    | .invoke r name=>some (.invoke (SOpd.of r) name (c.args.toList.map SOpd.of)))=some so:=ht
   rw[hcal]at ht'
   have ht':transBuiltin P b c.args.toList c.argTypes.toList=some so:=ht'
   unfold transBuiltin at ht'
   split at ht'
   ·split at ht'
    ·cases ht';exact quiet rfl
    ·cases ht';exact quiet rfl
    ·cases ht'
   ·rename_i x y t tx e1 e2 _e3
    split at ht'
    ·rename_i e e' hu hk
     split at ht'
     ·rename_i i z hi hz
      split at ht'
      ·rename_i hcnd
       cases ht'
       simp at hcnd
       exact e_append (rest:=c) ho hcal (by apply Array.ext';simpa using e1) (by apply Array.ext';simpa using e2) hu hk hi hz hcnd.1.1 hcnd.1.2 hcnd.2 hS hE h hn
      ·cases ht'
     ·cases ht'
    ·cases ht'
   ·cases ht'
 |move x=>cases ht;exact quiet rfl
 |assign x=>cases ht;exact quiet rfl
 |pick c x y=>cases ht;exact quiet rfl
 |nilCheck x=>cases ht;exact quiet rfl
 |extract x i=>cases ht;exact quiet rfl
 |makeInterface t x=>
  have ht:transMkI P t x=some so:=ht
  unfold transMkI at ht
  split at ht
  ·cases ht
  ·cases ht;exact quiet rfl
  ·cases ht
 |makeFunc fn first cap=>cases ht;exact quiet rfl
 |load t x=>
  have ht:transLoad P t x=some so:=ht
  unfold transLoad at ht
  split at ht
  ·split at ht
   ·cases ht;exact quiet rfl
   ·cases ht
  ·cases ht
 |build t parts=>
  have ht:transBuild P t parts=some so:=ht
  unfold transBuild at ht
  split at ht
  ·split at ht
   ·cases ht
   obtain⟨sp,hm,rfl⟩:=Option.map_eq_some_iff.1 ht
   exact quiet rfl
  ·cases ht
 |fieldAddr t x i=>
  have ht:transFieldA P t x i=some so:=ht
  unfold transFieldA at ht
  split at ht
  ·split at ht
   ·split at ht
    ·cases ht;exact quiet rfl
    ·cases ht
   ·cases ht
  ·cases ht
 |indexAddr t x i=>
  have ht:transIndexA P t x i=some so:=ht
  unfold transIndexA at ht
  split at ht
  ·obtain⟨n,hn,rfl⟩:=Option.map_eq_some_iff.1 ht;exact quiet rfl
  ·obtain⟨n,hn,rfl⟩:=Option.map_eq_some_iff.1 ht;exact quiet rfl
  ·cases ht
 |index t x i=>
  have ht:transIndex P t x i=some so:=ht
  unfold transIndex at ht
  split at ht
  ·cases ht;exact quiet rfl
  ·cases ht
 |slice t x lo hi mx=>
  cases mx with
  |some m=>cases ht
  |none=>
   have ht:transSlice P t x lo hi=some so:=ht
   unfold transSlice at ht
   split at ht
   ·obtain⟨n,hn,rfl⟩:=Option.map_eq_some_iff.1 ht;exact quiet rfl
   ·cases ht;exact quiet rfl
   ·cases ht
 |field t x i=>
  have ht:transField P t x i=some so:=ht
  unfold transField at ht
  split at ht
  ·split at ht
   ·split at ht
    ·split at ht
     ·cases ht;exact quiet rfl
     ·cases ht
    ·cases ht
   ·cases ht
  ·cases ht
 |binOp op t x y u=>
  have ht:transBin P op t x y=some so:=ht
  unfold transBin at ht
  split at ht
  ·split at ht
   ·cases ht;exact quiet rfl
   ·cases ht
  ·split at ht
   ·cases ht;exact quiet rfl
   ·cases ht
  ·obtain⟨n,hn,rfl⟩:=Option.map_eq_some_iff.1 ht;exact quiet rfl
  ·split at ht
   ·split at ht
    ·cases ht
    obtain⟨n,hn,rfl⟩:=Option.map_eq_some_iff.1 ht;exact quiet rfl
   ·cases ht
  ·split at ht
   ·obtain⟨n,hn,rfl⟩:=Option.map_eq_some_iff.1 ht;exact quiet rfl
   ·cases ht
  ·cases ht
 |unOp op t x=>
  cases op<;>first
   |(cases ht;done)
   |(cases ht;exact quiet rfl)
 |convert s d x=>
  have ht:transConv P s d x=some so:=ht
  unfold transConv at ht
  split at ht
  ·cases ht;exact quiet rfl
  ·cases ht;exact quiet rfl
  ·cases ht
 |_=>cases ht
end
end Go.Av
