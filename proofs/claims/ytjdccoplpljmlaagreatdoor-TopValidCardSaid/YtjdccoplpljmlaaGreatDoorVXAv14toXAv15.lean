/-
  ABSTRACT VALUES, 14: a call; all operations in one; a region; code; a function.
-/
import Derived.Test.YtjdccoplpljmlaaGreatDoorVXAv13
import Derived.Deep.LoopGhost
namespace Go.Av
open Go Go.RowKit List
set_option linter.unusedSimpArgs false
set_option linter.unusedVariables false
theorem Ev.frame {σ E σr σ':Store} {w w':World} (h:Ev E w σ' w') (I:Sub (E++σr) σ):Ev σ w (σ'++σr) w' where
 os:=h.os
 tape:=h.tape
 output:=h.output
 size:=h.size
 block b hb hn:=by
  have J:b∉E.keys:=λF=>hn (cj (σ:=σ) (σ':=E++σr) I (by rw[aB];exact mem_append.2 (.inl F)))
  have M:b∉σr.keys:=λF=>hn (cj (σ:=σ) (σ':=E++σr) I (by rw[aB];exact mem_append.2 (.inr F)))
  obtain⟨k1,N⟩:=h.block b hb J
  exact⟨k1,λF=>by rw[aB]at F;exact(mem_append.1 F).elim N M⟩
 shape:=h.shape
 cell a v hv F:=by
  have J:¬Mut E a.block a.off:=λm=>F (Mut.sub I (Mut.append.2 (.inl m)))
  have M:¬Mut σr a.block a.off:=λm=>F (Mut.sub I (Mut.append.2 (.inr m)))
  obtain⟨k1,N⟩:=h.cell a v hv J
  exact⟨k1,λm=>(Mut.append.1 m).elim N M⟩
section
variable {G:Glob} {P:Program} {σ ρ:Store} {w:World} {env:Env} {a:Act} {o:Oper} {K:AV->Store->Prop} {next:Act->World->Prop} {Q:Exit->Act->World->Prop}
theorem iG {k:FuncId} {fn:Func} (J:P.funcs[k]? =some fn) (M:(fn.name== "runtime.NumGoroutine")=false) (I:fn.body.isNone=false) (args:Array Value) (w':World):
  (callFunc k args).run P w'= .ok (.enter k args) w':=by
 have F:¬fn.name= "runtime.NumGoroutine" :=by simpa using M
 have E:¬fn.body=none:=by intro e;simp[e]at I
 simp[callFunc,J,F,E]
theorem run_call {c:Call} {f:Operand} {k:FuncId} {first cap:Array Value} {fn:Func} (M:o.op= .call c) (E:c.callee= .value f) (N:a.eval f= .func (.func k) first cap)
  (I:P.funcs[k]? =some fn) (J:(fn.name== "runtime.NumGoroutine")=false) (F:fn.body.isNone=false) (w':World):
  (execOp a.eval o).run P w'= .ok (.enter k (first++c.args.map a.eval++cap)) w':=by
 obtain⟨callee,args,argTypes⟩:=c
 simp only at E
 subst E
 simp[execOp,M,resolve,N,Deferred.ofValue,invoke,iG I J F]
theorem lg {first cap:Array Value} {args:Array Operand} {E:List AV} {τ:Store} (J:Sat G τ w) (I:∀j,Rep τ w (env.get j) (a.tmps.getD j undef)) (F:aA ((args.toList.map SOpd.of).map (·.eval G env)) E):
  RepL τ w (first.toList.map AV.ofValue++E++cap.toList.map AV.ofValue) (first++args.map a.eval++cap).toList:=by
 simp only[Array.toList_append,Array.toList_map]
 exact RepL.append (RepL.append (RepL.ofValues τ w _) (F.rep (lq J I _))) (RepL.ofValues τ w _)
theorem e_callF {k:FuncId} {first cap:Array Value} {args:Array Operand} (T:∀w',(execOp a.eval o).run P w'=(callFunc k (first++args.map a.eval++cap)).run P w')
  (hS:Sat G (σ++ρ) w) (hE:∀j,Rep (σ++ρ) w (env.get j) (a.tmps.getD j undef))
  (h:j7 G P (.func (.func k) first cap) ((args.toList.map SOpd.of).map (·.eval G env)) σ K) (hn:Goes G σ ρ w a o K next):o.wp P a w next Q:=by
 obtain⟨R,X,σr,Y,E,ac,F,ad,hK⟩:=h
 have O:Sat G (X++(σr++ρ)) w:=by
  have:=hS.subN ⟨F,ad⟩
  rwa [append_assoc]at this
 have J:Sub (X++(σr++ρ)) (σ++ρ):=by
  intro p M
  rw[←append_assoc]at M
  rcases mem_append.1 M with M|M
  ·exact mem_append.2 (.inl (F p M))
  ·exact mem_append.2 (.inr M)
 have hA:=RepL.sub J (lg (first:=first) (cap:=cap) (args:=args) hS hE ac)
 unfold Oper.wp
 rw[T]
 rcases E with⟨k',I,N,hv,⟨fn,g1,g2,g3⟩,E⟩|⟨k',I,N,hv,E⟩
 ·cases hv
  rw[iG g1 g2 g3]
  simp only[Oper.upon_enter]
  refine(E (σr++ρ) w _ O hA).mono ?_
  rintro e w' ⟨v,r,σ',rfl,Z,s1,ev,V⟩
  rw[←append_assoc]at s1 V
  exact hn v r (σ'++σr) w' (hK r σ' Z s1.nodup_left) s1 (ev.frame F) V
 ·cases hv
  obtain⟨v,r,σ',w',hr,Z,s1,ev,V⟩:=E (σr++ρ) w _ O hA
  rw[hr]
  simp only[Oper.upon_value]
  rw[←append_assoc]at s1 V
  exact hn v r (σ'++σr) w' (hK r σ' Z s1.nodup_left) s1 (ev.frame F) V
theorem j7.func {f:Value} {args:List AV} (h:j7 G P f args σ K):∃k first cap,f= .func (.func k) first cap:=by
 obtain⟨_,_,_,_,⟨k,first,cap,E,_⟩|⟨k,first,cap,E,_⟩,_⟩:=h
 ·exact⟨k,first,cap,E⟩
 ·exact⟨k,first,cap,E⟩
theorem e_call {c:Call} {f:Operand} (O:o.op= .call c) (J:c.callee= .value f) (I:Sat G (σ++ρ) w) (F:∀j,Rep (σ++ρ) w (env.get j) (a.tmps.getD j undef))
  (h:scX ((SOpd.of f).eval G env) λv=>j7 G P v ((c.args.toList.map SOpd.of).map (·.eval G env)) σ K) (N:Goes G σ ρ w a o K next):o.wp P a w next Q:=by
 have E:=ar (G:=G) I F f
 unfold scX at h
 split at h
 ·rename_i v M
  rw[M]at E
  simp only[Rep]at E
  obtain⟨k,first,cap,rfl⟩:=h.func
  refine e_callF (args:=c.args) (λw'=>?_) I F h N
  obtain⟨callee,args,argTypes⟩:=c
  simp only at J
  subst J
  simp[execOp,O,resolve,E,Deferred.ofValue,invoke]
 ·exact h.elim
theorem e_invoke {c:Call} {x:Operand} {name:String} (Z:o.op= .call c) (J:c.callee= .invoke x name) (I:Sat G (σ++ρ) w) (F:∀j,Rep (σ++ρ) w (env.get j) (a.tmps.getD j undef))
  (h:scX ((SOpd.of x).eval G env) λv=>AInv G P v name ((c.args.toList.map SOpd.of).map (·.eval G env)) σ K) (Y:Goes G σ ρ w a o K next):o.wp P a w next Q:=by
 have E:=ar (G:=G) I F x
 unfold scX at h
 split at h
 ·rename_i v V
  rw[V]at E
  simp only[Rep]at E
  obtain⟨k,rv,X,h⟩:=h
  refine e_callF (args:=c.args) (λw'=>?_) I F h Y
  obtain⟨callee,args,argTypes⟩:=c
  simp only at J
  subst J
  have M:(#[v]++args.map a.eval).extract 1 (#[v]++args.map a.eval).size=args.map a.eval:=by
   apply Array.ext'
   simp
   rw[take_of_length_le (by simp)]
  have N:(#[v]++args.map a.eval)[0]? =some v:=by rw[Array.getElem?_append_left (show 0<1 by omega)];rfl
  have O:(execOp a.eval o).run P w'=(callMethod v name (args.map a.eval)).run P w':=by
   have T:execOp a.eval o=callMethod v name (args.map a.eval):=by
    unfold execOp
    rw[Z]
    show(do let d ←resolve a.eval {callee:=.invoke x name,args:=args,argTypes:=argTypes} o.type;invoke d.target d.args)=_
    show(pure _>>=_)=_
    rw[pure_bind]
    show (do let some recv := (#[a.eval x] ++ args.map a.eval)[0]? | stuck "call: a method without a receiver"
             callMethod recv name ((#[a.eval x] ++ args.map a.eval).extract 1 (#[a.eval x] ++ args.map a.eval).size)) = _
    rw[E,N,M]
   rw[T]
  rw[O,X]
  simp
 ·exact h.elim
theorem gr {op:Op} {J:SOp} (V:o.op=op) (E:bN P op=some J) (T:Sat G (σ++ρ) w) (Y:∀j,Rep (σ++ρ) w (env.get j) (a.tmps.getD j undef)) (h:aop G P J env σ K)
  (O:Goes G σ ρ w a o K next):o.wp P a w next Q:=by
 have F:(aop G P J env σ K=aq G J env σ λr=>K r σ)->o.wp P a w next Q:=λe=>e_quiet V E T Y (by rw[e]at h;exact h) O
 cases op with
 |alloc e=>
  have E:(cu P e).map (.alloc e ·)=some J:=E
  obtain⟨z,X,rfl⟩:=Option.map_eq_some_iff.1 E
  exact e_alloc V X T h O
 |box e x=>
  have E:(aZ P e).map (.box e · (SOpd.of x))=some J:=E
  obtain⟨z,X,rfl⟩:=Option.map_eq_some_iff.1 E
  exact e_box V T Y h O
 |store t x y=>
  have E:(aZ P t).map (.store · (SOpd.of x) (SOpd.of y))=some J:=E
  obtain⟨z,X,rfl⟩:=Option.map_eq_some_iff.1 E
  exact e_store V X T Y h O
 |buildSlice t len parts=>
  have E:cR P t len parts=some J:=E
  unfold cR at E
  split at E
  ·rename_i e hu
   split at E
   ·rename_i n z ac X
    split at E
    ·rename_i Z
     cases E
     simp at Z
     exact e_buildS V hu ac X Z.1.1 Z.1.2 Z.2 T Y h O
    ·cases E
   ·cases E
  ·cases E
 |call c=>
  cases M:c.callee with
  |invoke r m=>
   have E:(match c.callee with
    | .builtin b=>bj P b c.args.toList c.argTypes.toList
    | .value f=>some (.call (SOpd.of f) (c.args.toList.map SOpd.of))
    | .invoke r name=>some (.invoke (SOpd.of r) name (c.args.toList.map SOpd.of)))=some J:=E
   rw[M]at E
   cases E
   exact e_invoke V M T Y h O
  |value f=>
   have E:(match c.callee with
    | .builtin b=>bj P b c.args.toList c.argTypes.toList
    | .value f=>some (.call (SOpd.of f) (c.args.toList.map SOpd.of))
    | .invoke r name=>some (.invoke (SOpd.of r) name (c.args.toList.map SOpd.of)))=some J:=E
   rw[M]at E
   cases E
   exact e_call V M T Y h O
  |builtin b=>
   have I:(match c.callee with
    | .builtin b=>bj P b c.args.toList c.argTypes.toList
    | .value f=>some (.call (SOpd.of f) (c.args.toList.map SOpd.of))
    | .invoke r name=>some (.invoke (SOpd.of r) name (c.args.toList.map SOpd.of)))=some J:=E
   rw[M]at I
   have I:bj P b c.args.toList c.argTypes.toList=some J:=I
   unfold bj at I
   split at I
   ·split at I
    ·cases I;exact F rfl
    ·cases I;exact F rfl
    ·cases I
   ·rename_i x y t tx e1 e2 _e3
    split at I
    ·rename_i e e' hu hk
     split at I
     ·rename_i i z hi X
      split at I
      ·rename_i N
       cases I
       simp at N
       exact e_append (rest:=c) V M (by apply Array.ext';simpa using e1) (by apply Array.ext';simpa using e2) hu hk hi X N.1.1 N.1.2 N.2 T Y h O
      ·cases I
     ·cases I
    ·cases I
   ·cases I
 |move x=>cases E;exact F rfl
 |assign x=>cases E;exact F rfl
 |pick c x y=>cases E;exact F rfl
 |nilCheck x=>cases E;exact F rfl
 |extract x i=>cases E;exact F rfl
 |makeInterface t x=>
  have E:eL P t x=some J:=E
  unfold eL at E
  split at E
  ·cases E
  ·cases E;exact F rfl
  ·cases E
 |makeFunc fn first cap=>cases E;exact F rfl
 |load t x=>
  have E:cW P t x=some J:=E
  unfold cW at E
  split at E
  ·split at E
   ·cases E;exact F rfl
   ·cases E
  ·cases E
 |build t parts=>
  have E:dw P t parts=some J:=E
  unfold dw at E
  split at E
  ·split at E
   ·cases E
   obtain⟨sp,hm,rfl⟩:=Option.map_eq_some_iff.1 E
   exact F rfl
  ·cases E
 |fieldAddr t x i=>
  have E:bG P t x i=some J:=E
  unfold bG at E
  split at E
  ·split at E
   ·split at E
    ·cases E;exact F rfl
    ·cases E
   ·cases E
  ·cases E
 |indexAddr t x i=>
  have E:cQ P t x i=some J:=E
  unfold cQ at E
  split at E
  ·obtain⟨n,O,rfl⟩:=Option.map_eq_some_iff.1 E;exact F rfl
  ·obtain⟨n,O,rfl⟩:=Option.map_eq_some_iff.1 E;exact F rfl
  ·cases E
 |index t x i=>
  have E:du P t x i=some J:=E
  unfold du at E
  split at E
  ·cases E;exact F rfl
  ·cases E
 |slice t x lo hi mx=>
  cases mx with
  |some m=>cases E
  |none=>
   have E:dn P t x lo hi=some J:=E
   unfold dn at E
   split at E
   ·obtain⟨n,O,rfl⟩:=Option.map_eq_some_iff.1 E;exact F rfl
   ·cases E;exact F rfl
   ·cases E
 |field t x i=>
  have E:dA P t x i=some J:=E
  unfold dA at E
  split at E
  ·split at E
   ·split at E
    ·split at E
     ·cases E;exact F rfl
     ·cases E
    ·cases E
   ·cases E
  ·cases E
 |binOp op t x y u=>
  have E:eN P op t x y=some J:=E
  unfold eN at E
  split at E
  ·split at E
   ·cases E;exact F rfl
   ·cases E
  ·split at E
   ·cases E;exact F rfl
   ·cases E
  ·obtain⟨n,O,rfl⟩:=Option.map_eq_some_iff.1 E;exact F rfl
  ·split at E
   ·split at E
    ·cases E
    obtain⟨n,O,rfl⟩:=Option.map_eq_some_iff.1 E;exact F rfl
   ·cases E
  ·split at E
   ·obtain⟨n,O,rfl⟩:=Option.map_eq_some_iff.1 E;exact F rfl
   ·cases E
  ·cases E
 |unOp op t x=>
  cases op<;>first
   |(cases E;done)
   |(cases E;exact F rfl)
 |convert s d x=>
  have E:d5 P s d x=some J:=E
  unfold d5 at E
  split at E
  ·cases E;exact F rfl
  ·cases E;exact F rfl
  ·cases E
 |_=>cases E
end
theorem Env.get_set (v:AV) (d:Nat):∀(env:Env) (j:Nat),(env.set d v).get j=if d=j then v else env.get j
 |[],j=>by simp[Env.set,Env.get]
 |(k,x)::e,j=>by
  simp only[Env.set]
  by_cases F:k=d
  ·subst F
   simp only[if_true,Env.get]
   split<;>rfl
  ·simp only[F,if_false,Env.get,Env.get_set v d e j]
   by_cases E:k=j
   ·subst E
    have:¬d=k:=λe=>F e.symm
    simp[this]
   ·simp[E]
theorem Env.get_keep (ks:List Nat):∀(env:Env) (j:Nat),(env.keep ks).get j= .any\/(env.keep ks).get j=env.get j
 |[],j=>.inr rfl
 |(k,x)::e,j=>by
  simp only[Env.keep,filter_cons]
  by_cases F:ks.contains k=true
  ·simp only[F,if_true,Env.get]
   by_cases E:k=j
   ·simp[E]
   ·simp only[E,if_false];exact Env.get_keep ks e j
  ·simp only[F,Env.get]
   by_cases E:k=j
   ·left
    subst E
    have key:∀e:Env,Env.get (e.filter λp=>ks.contains p.1) k= .any:=by
     intro e
     induction e with
     |nil=>rfl
     |cons p e ih=>
      simp only[filter_cons]
      split
      ·rename_i J
       simp only[Env.get]
       split
       ·rename_i I;rw[I]at J;exact absurd J F
       ·exact ih
      ·exact ih
    exact key e
   ·simp only[E,if_false];exact Env.get_keep ks e j
structure St (G:Glob) (ρ:Store) (w0:World) (σ0:Store) (n:Nat) (env:Env) (σ:Store) (a:Act) (w:World):Prop where
 sat:Sat G (σ++ρ) w
 ev:Ev σ0 w0 σ w
 env:∀j,Rep (σ++ρ) w (env.get j) (a.tmps.getD j undef)
 size:n<=a.tmps.size
 defers:a.defers=[]
section
variable {G:Glob} {P:Program} {ρ:Store} {w0:World} {σ0:Store} {n:Nat}
theorem j3 (a:Act) (d:Option Tmp) (v:Value):(a.put d v).tmps.size=a.tmps.size:=by
 cases d<;>simp[Act.put]
theorem gM (a:Act) (d:Option Tmp) (v:Value):(a.put d v).defers=a.defers:=by
 cases d<;>simp[Act.put]
theorem mw {τ:Store} {w:World} {env:Env} {a:Act} {d:Option Nat} {r:AV} {v:Value} (F:∀j,Rep τ w (env.get j) (a.tmps.getD j undef)) (I:df n d=true) (M:n<=a.tmps.size)
  (J:Rep τ w r v):∀j,Rep τ w ((env.put d r).get j) ((a.put d v).tmps.getD j undef):=by
 intro j
 cases d with
 |none=>exact F j
 |some d=>
  simp only[df,decide_eq_true_eq]at I
  simp only[Env.put,Act.put,Env.get_set]
  by_cases E:d=j
  ·subst E
   have:(a.tmps.setIfInBounds d v).getD d undef=v:=by
    rw[Array.getD_eq_getD_getElem?,Array.getElem?_setIfInBounds]
    simp[show d<a.tmps.size by omega]
   rw[this];simpa using J
  ·have:(a.tmps.setIfInBounds d v).getD j undef=a.tmps.getD j undef:=by
    rw[Array.getD_eq_getD_getElem?,Array.getD_eq_getD_getElem?,Array.getElem?_setIfInBounds]
    simp[E]
   rw[this];simpa[E]using F j
theorem l9 {τ:Store} {w:World} {env:Env} {a:Act} {j:Nat} {b:Bool} (E:∀j,Rep τ w (env.get j) (a.tmps.getD j undef)) (F:env.get j= .bool b):
  ∀i,Rep τ w ((env.set j (.bool b)).get i) (a.tmps.getD i undef):=by
 intro i
 rw[Env.get_set]
 by_cases h:j=i
 ·subst h;rw[←F];simpa using E j
 ·simpa[h]using E i
theorem cb (τ:Store) (w:World):Rep τ w aE undef:=by
 simp only[aE,Rep];exact⟨#[],rfl,by simp[RepL]⟩
theorem cA {ops:Array Oper} {o:Oper} {tmps:Array Value} (h:o.guard=none):Region.wanted o (yielded ops tmps)=true:=by
 simp[Region.wanted,h]
theorem bq {τ:Store} {w:World} {env:Env} {ops:Array Oper} {o:Oper} {a:Act} {j d:Nat} {E b:Bool} (h:o.guard=some (j,E)) (O:(ops[j]?).bind (·.dst)=some d)
  (M:∀j,Rep τ w (env.get j) (a.tmps.getD j undef)) (N:env.get d= .bool b):Region.wanted o (yielded ops a.tmps)=(b==E):=by
 have F:=M d
 rw[N]at F
 simp only[Rep]at F
 have J:a.tmps[d]? =some (.bool b):=by
  rw[Array.getD_eq_getD_getElem?]at F
  cases I:a.tmps[d]? with
  |none=>rw[I]at F;simp[undef]at F
  |some x=>rw[I]at F;simp at F;rw[F]
 simp only[Region.wanted,h,yielded,O,Option.bind_some,J]
 cases b<;>cases E<;>rfl
theorem cf {τ:Store} {w:World} {env:Env} {ops:Array Oper} {o:Oper} {a:Act} {j d:Nat} {F:Bool} (h:o.guard=some (j,F)) (M:(ops[j]?).bind (·.dst)=some d)
  (I:∀j,Rep τ w (env.get j) (a.tmps.getD j undef)) (J:env.get d= .tup []):Region.wanted o (yielded ops a.tmps)=false:=by
 have E:=I d
 rw[J]at E
 simp only[Rep]at E
 obtain⟨vs,E,_⟩:=E
 simp only[Region.wanted,h,yielded,M,Option.bind_some]
 rw[Array.getD_eq_getD_getElem?]at E
 cases N:a.tmps[d]? with
 |none=>rfl
 |some x=>rw[N]at E;simp at E;subst E;rfl
theorem bD {ops:Array Oper} {j:Nat} {b:Bool} {g:Option (Nat×Bool)} (h:ec ops (some (j,b))=some g):∃d,(ops[j]?).bind (·.dst)=some d/\g=some (d,b):=by
 simp only[ec]at h
 obtain⟨d,E,rfl⟩:=Option.map_eq_some_iff.1 h
 exact⟨d,E,rfl⟩
theorem St.put {env:Env} {σ σ':Store} {a:Act} {w w':World} {d:Option Nat} {r:AV} {v:Value} (h:St G ρ w0 σ0 n env σ a w) (F:df n d=true) (J:Sat G (σ'++ρ) w') (E:Ev σ w σ' w')
  (I:Rep (σ'++ρ) w' r v):St G ρ w0 σ0 n (env.put d r) σ' (a.put d v) w' where
 sat:=J
 ev:=h.ev.trans E
 env:=mw (λj=>Rep.ev E _ _ (h.env j)) F h.size I
 size:=by rw[j3];exact h.size
 defers:=by rw[gM];exact h.defers
theorem St.set {env:Env} {σ:Store} {a:Act} {w:World} {j:Nat} {b:Bool} (h:St G ρ w0 σ0 n env σ a w) (E:env.get j= .bool b):St G ρ w0 σ0 n (env.set j (.bool b)) σ a w:=
 {h with env:=l9 h.env E}
theorem St.weak {env E:Env} {σ σ':Store} {a:Act} {w:World} (h:St G ρ w0 σ0 n env σ a w) (M:Weak G env σ E σ'):St G ρ w0 σ0 n E σ' a w:=by
 obtain⟨F,I,J⟩:=M ρ w a.tmps h.sat h.env
 exact{h with sat:=F,ev:=h.ev.trans I,env:=J}
theorem St.keep {env:Env} {σ:Store} {a:Act} {w:World} (ks:List Nat) (h:St G ρ w0 σ0 n env σ a w):St G ρ w0 σ0 n (env.keep ks) σ a w:=
 ⟨h.sat,h.ev,λj=>by
   rcases Env.get_keep ks env j with e|e
   ·rw[e];simp only[Rep]
   ·rw[e];exact h.env j,h.size,h.defers⟩
theorem dF {M:Nat->Bool} {ops:Array Oper} {o:Oper} {l:List Oper} {N:List SOper} (h:bY P n M ops (o::l)=some N):
  ∃F g rest,(bN P o.op=some F\/F= .raw o.op\/∃e x m,o.op= .box e x/\aZ P e=some m/\F= .boxR m (SOpd.of x))/\ec ops o.guard=some g/\df n o.dst=true/\bY P n M ops l=some rest/\N=⟨o.dst,g,F⟩::rest:=by
 simp only[bY]at h
 split at h
 ·rename_i F J I V
  cases h
  unfold d7 at I
  split at I
  ·rename_i g O T
   cases I
   refine⟨_,g,J,?_,O,T,V,rfl⟩
   have E:∀y,y=(bN P o.op).getD (.raw o.op)->(bN P o.op=some y\/y= .raw o.op\/∃e x m,o.op= .box e x/\aZ P e=some m/\y= .boxR m (SOpd.of x)):=by
    rintro y rfl
    cases bN P o.op with
    |none=>exact .inr (.inl rfl)
    |some F=>exact .inl rfl
   unfold roBox
   split
   ·rename_i e x d Y Z
    split
    ·split
     ·rename_i m X
      exact .inr (.inr ⟨e,x,m,Y,X,rfl⟩)
     ·exact E _ rfl
    ·exact E _ rfl
   ·split
    ·exact .inr (.inl rfl)
    ·exact E _ rfl
   ·exact E _ rfl
  ·cases I
 ·cases h
theorem cN {ro:Nat->Bool} {ops:Array Oper} {Q:Exit->Act->World->Prop} {K:Env->Store->Prop} (J:∀env σ a w,K env σ->St G ρ w0 σ0 n env σ a w->Q .normal a w):
  ∀(l:List Oper) (sl:List SOper) (env:Env) (σ:Store) (a:Act) (w:World),bY P n ro ops l=some sl->srun G P sl env σ K->St G ρ w0 σ0 n env σ a w->wpList P ops Q l a w
 |[],sl,env,σ,a,w,ht,h,st=>by cases ht;exact J _ _ _ _ h st
 |o::l,sl,env,σ,a,w,ht,h,st=>by
  obtain⟨so,g,rest,e1,e2,T,V,rfl⟩:=dF ht
  have go:∀env,aop G P so env σ (λr σ'=>srun G P rest (env.put o.dst r) σ' K)->St G ρ w0 σ0 n env σ a w->o.wp P a w (wpList P ops Q l) Q:=λenv h st=>
   e1.elim (λe1=>gr rfl e1 st.sat st.env h λv r σ' w' N O M F=>cN J l rest _ _ _ _ V N (st.put T O M F)) λe=>by
    rcases e with e|⟨t,x,m,ho,hm,e⟩
    rotate_left
    ·rw[e]at h
     exact ms (n:=m) (K:=λr σ'=>srun G P rest (env.put o.dst r) σ' K) ho st.sat st.env h λv r σ' w' N O M F=>cN J l rest _ _ _ _ V N (st.put T O M F)
    rw[e]at h
    obtain⟨v,w',r,σ',F,N,O,M,I⟩:=h ρ w a o rfl st.sat st.env
    rcases F with F|⟨F,rfl⟩
    ·exact bH F (cN J l rest _ _ _ _ V N (st.put T O M I))
    ·exact ep F (cN J l rest _ _ _ _ V N (st.put T O M I))
  have skip:∀env,srun G P rest (env.put o.dst aE) σ K->St G ρ w0 σ0 n env σ a w->wpList P ops Q l (a.put o.dst undef) w:=λenv h st=>
   cN J l rest _ _ _ _ V h (st.put T st.sat (Ev.refl σ w) (cb _ w))
  cases hg:o.guard with
  |none=>
   rw[hg]at e2
   cases e2
   simp only[wpList]
   rw[if_pos (cA hg)]
   exact .inl (go env h st)
  |some jb=>
   obtain⟨j,E⟩:=jb
   rw[hg]at e2
   obtain⟨d,hd,rfl⟩:=bD e2
   have h:gd (env.get d) E (aop G P so (env.set d (.bool E)) σ λr σ'=>srun G P rest ((env.set d (.bool E)).put o.dst r) σ' K)
    (srun G P rest ((env.set d (.bool (!E))).put o.dst aE) σ K) (srun G P rest (env.put o.dst aE) σ K):=h
   unfold gd at h
   simp only[wpList]
   split at h
   ·rename_i b X
    rw[bq hg hd st.env X]
    by_cases Z:b=E
    ·subst Z
     simp only[BEq.rfl,if_true]
     exact .inl (go _ (h.1 rfl) (st.set X))
    ·have Y:b= !E:=by cases b<;>cases E<;>simp_all
     have:(b==E)=false:=by simpa using Z
     simp only[this]
     exact skip _ (h.2 Y) (st.set (by rw[X,Y]))
   ·rename_i X
    rw[cf hg hd st.env X]
    exact skip _ h st
   ·exact h.elim
theorem Rep.rigid {τ:Store} {w:World} {r:AV} {u v:Value} (h:Rep τ w r u) (E:r.rigid=some v):u=v:=by
 cases r<;>simp only[AV.rigid]at E<;>first
  |(cases E;done)
  |(cases E;simpa only[Rep]using h)
theorem Rep.of_rigid {τ:Store} {w:World} {r:AV} {v:Value} (E:r.rigid=some v):Rep τ w r v:=by
 cases r<;>simp only[AV.rigid]at E<;>first
  |(cases E;done)
  |(cases E;simp only[Rep])
theorem Same.trans {w F w2:World} (h:Same w F) (k:Same F w2):Same w w2:=
 ⟨Nat.le_trans h.1 k.1,λb E=>(k.2 b (Nat.lt_of_lt_of_le E h.1)).trans (h.2 b E)⟩
def QC (G:Glob) (σ ρ:Store) (w w':World):Prop:=Sat G (σ++ρ) w'/\Ev σ w σ w'/\Same w w'
theorem nN {env:Env} {σ:Store} {a:Act} {w:World} {o:Oper} {c:Call} {f:Operand} {K:AV->Prop} (ho:o.op= .call c) (hc:c.callee= .value f)
  (hS:Sat G (σ++ρ) w) (O:∀j,Rep (σ++ρ) w (env.get j) (a.tmps.getD j undef))
  (h:scX ((SOpd.of f).eval G env) λv=>AQCall G P v ((c.args.toList.map SOpd.of).map (·.eval G env)) K):
  ∃r u,K r/\Rep (σ++ρ) w r u/\∀w',QC G σ ρ w w'->o.quietAt P a (QC G σ ρ w) w' u:=by
 have M:=ar (G:=G) hS O f
 unfold scX at h
 split at h
 ·rename_i v he
  rw[he]at M
  simp only[Rep]at M
  obtain⟨r,J,F,⟨k,first,cap,hv,⟨fn,V,X,Y⟩,E⟩,N,hK⟩:=h
  subst hv
  obtain⟨u,T⟩:=Option.isSome_iff_exists.1 F
  refine⟨r,u,hK,Rep.of_rigid T,λw' hC=>?_⟩
  obtain⟨c1,c2,c3⟩:=hC
  have I:=run_call (P:=P) (w':=w') ho hc M V X Y
  have Z:=lg (first:=first) (cap:=cap) (args:=c.args) c1 (λj=>Rep.ev c2 _ _ (O j)) N
  unfold Oper.quietAt
  rw[I]
  refine⟨rfl,?_⟩
  refine(E (σ++ρ) w' (first++c.args.map a.eval++cap) (by simpa using c1) Z).mono ?_
  rintro e ac ⟨v',r',σ',rfl,⟨rfl,rfl⟩,s1,ev,rr⟩
  refine⟨by rw[Rep.rigid rr T],by simpa using s1,c2.trans ?_,c3.trans ⟨ev.size,λb hb=>(ev.block b hb (by simp[Store.keys])).1⟩⟩
  have:=ev.frame (σ:=σ) (σr:=σ) (by intro p hp;simpa using hp)
  simpa using this
 ·exact h.elim
theorem lY {op:Op} (F:∀c,op≠ .call c) (f:SOpd) (args:List SOpd):bN P op≠some (.call f args):=by
 intro E
 cases op with
 |call c=>exact F c rfl
 |_=>first
  |(cases E;done)
  |(simp only[bN,cW,dw,bG,cQ,du,dn,dA,eN,d5,cR,eL]at E
    repeat' split at E
    all_goals simp_all)
theorem aqc_sound {env:Env} {σ:Store} {a:Act} {w:World} {o:Oper} {O:SOp} {K:AV->Prop} (E:bN P o.op=some O) (V:Sat G (σ++ρ) w)
  (T:∀j,Rep (σ++ρ) w (env.get j) (a.tmps.getD j undef)) (h:aqc G P O env σ K):
  ∃r u,K r/\Rep (σ++ρ) w r u/\∀w',QC G σ ρ w w'->o.quietAt P a (QC G σ ρ w) w' u:=by
 have M:aq G O env σ K->∃r u,K r/\Rep (σ++ρ) w r u/\∀w',QC G σ ρ w w'->o.quietAt P a (QC G σ ρ w) w' u:=by
  intro h
  obtain⟨r,u,Y,Z,N⟩:=cZ rfl E rfl V T h
  refine⟨r,u,Y,Z,λw' X=>?_⟩
  unfold Oper.quietAt
  rw[N w' (λ_=>X.2.2)]
  exact⟨rfl,rfl⟩
 by_cases I:∃f args,O= .call f args
 ·obtain⟨f,args,rfl⟩:=I
  cases J:o.op with
  |call c=>
   rw[J]at E
   have E:(match c.callee with
    | .builtin b=>bj P b c.args.toList c.argTypes.toList
    | .value f=>some (.call (SOpd.of f) (c.args.toList.map SOpd.of))
    | .invoke r name=>some (.invoke (SOpd.of r) name (c.args.toList.map SOpd.of)))=some (SOp.call f args):=E
   cases F:c.callee with
   |invoke r m=>rw[F]at E;cases E
   |value f'=>
    rw[F]at E
    cases E
    exact nN J F V T h
   |builtin b=>
    rw[F]at E
    have E:bj P b c.args.toList c.argTypes.toList=some (SOp.call f args):=E
    unfold bj at E
    split at E
    ·split at E<;>cases E
    ·split at E
     ·split at E
      ·split at E<;>cases E
      ·cases E
     ·cases E
    ·cases E
  |_=>exact absurd E (lY (λc e=>by rw[J]at e;cases e) f args)
 ·refine M ?_
  cases O<;>first
   |exact h
   |exact absurd ⟨_,_,rfl⟩ I
end
end Go.Av
