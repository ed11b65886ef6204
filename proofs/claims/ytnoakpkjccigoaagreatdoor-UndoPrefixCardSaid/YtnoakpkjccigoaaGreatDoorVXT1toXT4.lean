/-
  A RANGE OVER A FUNCTION, 1: slices.Backward over a row of structs.
-/
import Derived.RangeFuncNested
import Derived.RangeFuncLeaves
import Derived.Shelf.Abstract
import Derived.WalkKit
import Derived.TacticsInMore
import Derived.LoopNIn
import Derived.LoopIn
import Derived.Test.YtnoakpkjccigoaaGreatDoorVXAv16toXAv23
import Derived.Test.YtnoakpkjccigoaaGreatDoorProg
import Derived.Test.YtnoakpkjccigoaaGreatDoorVXAv24toXAv26
import Derived.Test.YtnoakpkjccigoaaGreatDoorVXM31toXM33
import Derived.Test.YtnoakpkjccigoaaGreatDoorVXU1toXU12
import Derived.Test.YtnoakpkjccigoaaGreatDoorVXOpenGtoXCS
namespace Go.Av
open Go Go.RowKit Go.Shelf Go.Proofs List
set_option linter.unusedSimpArgs false
set_option linter.unusedVariables false
section
attribute [local go_sem] Oper.semAt_some
section
variable {F:Fence} {n:Nat} {P:Program} {ops:Array Oper} {Q:Exit->Act->World->Prop} {a:Act} {w:World} {rest:List Oper} {o:Oper}
theorem qY (M:∀f,F.fn f) {t:TypeId} {x:Operand} {ad:Addr} {v:Value} (O:o.guard=none) (E:o.op= .load t x) (V:a.eval x= .pointer (some ad)) (T:(loadVar t ad).run P w= .ok v w)
  (h:wpListIn F n P ops Q rest (a.put o.dst v) w):wpListIn F n P ops Q (o::rest) a w:=by
 refine wpListIn_plain O λK N=>⟨λf _=>M f,?_⟩
 have I:o.semAt F.round a.eval=execOp a.eval o:=by
  cases F.round with
  |none=>rfl
  |some l=>exact Oper.semAt_some l _ _ (λc D=>by rw[E]at D;cases D)
 rw[I]
 have J:(execOp a.eval o).run P w= .ok (.value v) w:=by simp[execOp,E,Instr.loadAt,V,Instr.sureAddr,T]
 rw[J]
 exact N _ _ h
end
theorem sub1_wrap {k:Nat} (h:k<140737488355328):IntKind.i64.wrap ((k:Int)-1)=(k:Int)-1:=by
 exact aA (by omega) (by omega)
set_option maxRecDepth 100000 in
set_option maxHeartbeats 4000000 in
theorem bwd1 (l Bs:Nat) (a:Addr) (len cap:Nat) (pc:Nat->List Value) (hreach:len<140737488355328) (hpl:∀j,(pc j).length=18) (J:Nat->World->Prop)
  (hY:∀k W,J k W->k<len->YieldAt Fence.wide 8 Tryz.prog l #[.int .i64 ((len-1-k:Nat):Int),.agg (pc (len-1-k)).toArray] W λe W'=>e= .returned (.bool true)/\J (k+1) W')
  (hJ:∀k W,J k W->W.cell? ⟨Bs,0,none⟩=some (.slice (some a) len cap)/\∀j,j<len->∀i v,(pc j)[i]? =some v->W.cell? ((a.add (j*18)).add i)=some v) (W:World) (h0:J 0 W):
  CallsIn Fence.wide 9 Tryz.prog 104 #[.func (.yield l) #[] #[],.pointer (some ⟨Bs,0,none⟩)] W λe W'=>(∃v,e= .returned v)/\J len W':=by
 refine callsIn_of_wp Tryz.func104 rfl trivial ?_ rfl
 simp only[Tryz.ntmps104,size_toArray,length_cons,length_nil,Nat.reduceAdd,Nat.reduceSub,Array.replicate_succ,Array.replicate_zero,push_toArray,append_toArray,nil_append,cons_append]
 have hw0:=sub1_wrap hreach
 have hBs:=(hJ 0 W h0).1
 gi_wp2
 gi_loopw [3] (λi wr=>∃k:Nat,k<=len/\i= .int .i64 ((len:Int)-1-k)/\J k wr) (λi _=>(Go.Proofs.intOf i+1).toNat)
 case atStart=>exact⟨0,Nat.zero_le _,by simp,h0⟩
 case round=>
  obtain⟨k,hk,rfl,hJs⟩:=hrel
  obtain⟨hcB,hc⟩:=hJ k wr hJs
  clear hBs
  by_cases hlt:k<len
  ·obtain⟨fn,tmps,assign,body,hy,hR⟩:=hY k wr hJs hlt
   have e1:(len:Int)-1-k=((len-1-k:Nat):Int):=by omega
   rw[e1]
   have hld:(loadVar 29 ((a.add ((len-1-k)*18)))).run Tryz.prog wr= .ok (.agg (pc (len-1-k)).toArray) wr:=by
    have:=iN (P:=Tryz.prog) (n:=18) Tryz.underlying29 (by kernel_rfl) rfl (a.add ((len-1-k)*18)) (pc (len-1-k)) (hpl _) wr (hc _ (by omega))
    exact this
   clear hc hJ hY
   gi_wp2_with (refine qY (λ_=>trivial) (t:=29) (x:=.tmp 15) rfl rfl rfl hld ?_)
   refine hR.mono ?_
   rintro e W3 ⟨rfl,hJ3⟩
   have hw1:IntKind.i64.wrap (((len-1-k:Nat):Int)-1)=(len:Int)-1-((k+1:Nat):Int):=by
    rw[aA (by omega) (by omega)];omega
   gi_wp2
   go_roundw
   case rel=>exact⟨k+1,by omega,by first|rfl|simp[hw1]|omega,hJ3⟩
   case measure=>simp[Go.Proofs.intOf];omega
  ·obtain rfl:k=len:=by omega
   have e2:decide ((0:Int)<=(k:Int)-1-k)=false:=decide_eq_false (by omega)
   gi_wp2
   go_end0
   exact⟨⟨_,rfl⟩,hJs⟩
set_option maxRecDepth 100000 in
set_option maxHeartbeats 4000000 in
theorem bwd0 (l Bs:Nat) (J:Nat->World->Prop) (W:World) (hBs:W.cell? ⟨Bs,0,none⟩=some (.slice none 0 0)) (h0:J 0 W):
  CallsIn Fence.wide 9 Tryz.prog 104 #[.func (.yield l) #[] #[],.pointer (some ⟨Bs,0,none⟩)] W λe W'=>(∃v,e= .returned v)/\J 0 W':=by
 refine callsIn_of_wp Tryz.func104 rfl trivial ?_ rfl
 simp only[Tryz.ntmps104,size_toArray,length_cons,length_nil,Nat.reduceAdd,Nat.reduceSub,Array.replicate_succ,Array.replicate_zero,push_toArray,append_toArray,nil_append,cons_append]
 have hw0:IntKind.i64.wrap (0-1)= -1:=aA (by decide) (by decide)
 gi_wp2
 gi_loopw [3] (λi wr=>i= .int .i64 (-1)/\J 0 wr) (λ_ _=>0)
 case atStart=>exact⟨rfl,h0⟩
 case round=>
  obtain⟨rfl,hJs⟩:=hrel
  gi_wp2
  go_end0
  exact⟨⟨_,rfl⟩,hJs⟩
set_option maxHeartbeats 1000000 in
theorem bwd_in (a:Option Addr) (len cap:Nat) (w:World):
  CallsIn Fence.wide 9 Tryz.prog 49 #[.slice a len cap] w λe w'=>e= .returned (.func (.func 104) #[] #[.pointer (some ⟨w.heap.size,0,none⟩)])/\w'=w.alloc (.cells #[.slice a len cap] 60):=by
 refine callsIn_of_wp Tryz.func49 rfl trivial ?_ rfl
 simp only[Tryz.ntmps49,size_toArray,length_cons,length_nil,Nat.reduceAdd,Nat.reduceSub,Array.replicate_succ,Array.replicate_zero,push_toArray,append_toArray,nil_append,cons_append]
 gi_wp2
 go_ret
 exact⟨rfl,rfl⟩
end
theorem rounds {P:Program} {g:Operand} {ps:Array Tmp} {assign body:Code} {Q:Exit->Act->World->Prop} {a:Act} {w:World} {gf:Nat} {lb:Array Value} (hg:a.eval g= .func (.func gf) #[] lb) (eg:∀args w,(callFunc gf args).run P w= .ok (.enter gf args) w)
  (n:Nat) (enc:Nat->Array Value) (bk:∀k,(enc k).size=ps.size) (I:Nat->World->Prop) (A:Nat->Act->World->Prop)
  (Z:∀(l:Nat) (J:Nat->World->Prop),(∀k W,J k W->I k W)->(∀k W,J k W->k<n->YieldAt Fence.wide 8 P l (enc k) W λe W'=>e= .returned (.bool true)/\J (k+1) W')->∀W,J 0 W->
   CallsIn Fence.wide 9 P gf (#[.func (.yield l) #[] #[]]++lb) W λe W'=>(∃v,e= .returned v)/\J n W')
  (V:∀k W l o o',I k W->w.heap.size<=l->W.heap[l]? =some o->o.isCells=false->I k (W.putObj l o'))
  (T:∀k W o,I k W->I k (W.alloc o))
  (ah:∀k b W l o o',A k b W->w.heap.size<=l->W.heap[l]? =some o->o.isCells=false->A k b (W.putObj l o'))
  (h0:I 0 w)
  (M:∀(k l:Nat) (W:World) (K:Act->World->Prop),I k W->k<n->(∀b W₁,KeepsFrom w.heap.size W W₁->A k b W₁->K b W₁)->
   assign.wpIn (Fence.wide.inRound l) 8 P (Exit.then K (λ_ _ _=>False)) {tmps:=(ps.zip (enc k)).foldl (λt (p,v)=>t.setIfInBounds p v) a.tmps,defers:=[]} W)
  (X:∀(k l:Nat) (b:Act) (W:World),A k b W->k<n->body.wpIn (Fence.wide.inRound l) 8 P (λe _ W'=>e= .normal/\KeepsFrom w.heap.size W W'/\I (k+1) W') b W)
  (Y:∀(D:Nat) (W:World),w.heap.size<=D->I n W->W.heap[D]? =some (.deferred (some []))->Q .normal {a with defers:={target:=.collected D,args:=#[]}::a.defers} W):
  (Code.rangeFunc g ps assign body).wpIn Fence.wide 10 P Q a w:=by
 refine wpIn_rangeFunc λfn _=>?_
 obtain⟨rec,E⟩:∃rec:LoopState->Loop,rec=λst=>{state:=st,pending:=none,fn,tmps:=a.tmps,params:=ps,assign,body,defers:=w.heap.size}:=⟨_,rfl⟩
 obtain⟨W1,N⟩:∃W1,(w.alloc (.deferred (some []))).alloc (.loop (rec .ready))=W1:=⟨_,rfl⟩
 have bd:W1.heap[w.heap.size+1]? =some (.loop (rec .ready)):=by
  rw[←N];have:=World.alloc_heap_new (w.alloc (.deferred (some []))) (.loop (rec .ready));rwa [World.size_alloc]at this
 have bb:W1.heap[w.heap.size]? =some (.deferred (some [])):=by
  rw[←N];exact(Below.heap_alloc _ _ _ (by simp)).trans (World.alloc_heap_new w _)
 have ba:I 0 W1:=by rw[←N];exact T _ _ _ (T _ _ _ h0)
 refine⟨w.heap.size+1,[{target:=.collected w.heap.size,args:=#[]}],W1,{target:=.fn (.func gf) lb,args:=#[.func (.yield (w.heap.size+1)) #[] #[]]},W1,gf,
  #[.func (.yield (w.heap.size+1)) #[] #[]]++lb,W1,?_,?_,λ_ _=>trivial,?_,λ_=>by decide,?_⟩
 ·rw[←N,E];exact run_enterLoop_outer _ _ _ _ _
 ·simp only[resolve,hg]
  simp[go_sem]
 ·simp[invoke,go_sem,eg]
 ·refine(Z (w.heap.size+1) (λk W=>I k W/\W.heap[w.heap.size+1]? =some (.loop (rec .ready))/\W.heap[w.heap.size]? =some (.deferred (some []))) (λ_ _ h=>h.1) ?_ W1 ⟨ba,bd,bb⟩).mono ?_
  ·rintro k W ⟨hi,O,hk⟩ aw
   have hy:=run_yield (P:=P) (args:=enc k) O (by rw[E];exact bk k)
   rw[E]at hy
   refine⟨fn,_,assign,body,hy,roundIn_of_wpIn trivial (M k _ W _ hi aw ?_)⟩
   clear hy hi
   intro b Wa an hA
   replace O:=an.same _ _ (by omega) O rfl
   replace hk:=an.same _ _ (Nat.le_refl _) hk rfl
   refine⟨_,run_beginRound O (by rw[E]),?_⟩
   have bi:(Wa.putObj (w.heap.size+1) (.loop {rec .ready with state:=.busy})).heap[w.heap.size+1]? =some (.loop {rec .ready with state:=.busy}):=World.putObj_heap_same (Array.getElem?_eq_some_iff.1 O).1
   have bh:(Wa.putObj (w.heap.size+1) (.loop {rec .ready with state:=.busy})).heap[w.heap.size]? =some (.deferred (some [])):=(World.putObj_heap_other (by omega)).trans hk
   refine wpIn_mono (X k _ b _ (ah _ _ _ _ _ _ hA (by omega) O rfl) aw) ?_
   rintro e a3 W3 ⟨rfl,al,be⟩
   have ac:=al.same _ _ (by omega) bi rfl
   have hr:=run_endRound (P:=P) none ac
   rw[E]at hr
   refine⟨_,_,hr,rfl,V _ _ _ _ _ be (by omega) ac rfl,?_,?_⟩
   ·rw[E];exact World.putObj_heap_same (Array.getElem?_eq_some_iff.1 ac).1
   ·exact(World.putObj_heap_other (by omega)).trans (al.same _ _ (Nat.le_refl _) bh rfl)
  ·rintro e W2 ⟨⟨v,rfl⟩,hi,O,hk⟩
   have hr:=run_endLoop (P:=P) O (by rw[E];simp)
   rw[E]at hr
   exact⟨none,_,hr,Y _ _ (Nat.le_refl _) (V _ _ _ _ _ hi (by omega) O rfl) ((World.putObj_heap_other (by omega)).trans hk)⟩
section
mutual
theorem Rep.keep {τ:Store} {w w':World} (I:∀a u,w.cell? a=some u->w'.cell? a=some u) (J:∀b s,w.shape? b=some s->w'.shape? b=some s):∀(x:AV) (u:Value),Rep τ w x u->Rep τ w' x u
 | .any,_,_=>by simp only[Rep]
 | .bool b,u,h=>by simp only[Rep]at*;exact h
 | .int k n,u,h=>by simp only[Rep]at*;exact h
 | .str s,u,h=>by simp only[Rep]at*;exact h
 | .nil,u,h=>by simp only[Rep]at*;exact h
 | .sc v,u,h=>by simp only[Rep]at*;exact h
 | .lst sz rows,u,h=>by
  simp only[Rep]at*
  rcases h with h|⟨a,cap,D,E,M,N⟩
  ·exact .inl h
  ·exact .inr ⟨a,cap,D,E,M,ar.keep I J a sz 0 rows N⟩
 | .own none _ _ rows,u,h=>by simp only[Rep]at*;exact h
 | .own (some b) e sz rows,u,h=>by
  simp only[Rep]at*
  obtain⟨cap,D,E,M,N,O⟩:=h
  exact⟨cap,D,E,M,J _ _ N,ar.keep I J _ sz 0 rows O⟩
 | .ref cs,u,h=>by
  simp only[Rep]at*
  obtain⟨a,D,E⟩:=h
  exact⟨a,D,RepAt.keep I J a 0 cs E⟩
 | .agg cs,u,h=>by
  simp only[Rep]at*
  obtain⟨vs,D,E,M⟩:=h
  exact⟨vs,D,E,RepL.keep I J cs _ M⟩
 | .tup cs,u,h=>by
  simp only[Rep]at*
  obtain⟨vs,D,E⟩:=h
  exact⟨vs,D,RepL.keep I J cs _ E⟩
theorem RepL.keep {τ:Store} {w w':World} (I:∀a u,w.cell? a=some u->w'.cell? a=some u) (J:∀b s,w.shape? b=some s->w'.shape? b=some s):∀(xs:List AV) (us:List Value),RepL τ w xs us->RepL τ w' xs us
 |[],us,h=>by simp only[RepL]at*;exact h
 |x::xs,vs,h=>by
  simp only[RepL]at*
  obtain⟨u,us,D,E,M⟩:=h
  exact⟨u,us,D,Rep.keep I J x u E,RepL.keep I J xs us M⟩
theorem RepAt.keep {τ:Store} {w w':World} (I:∀a u,w.cell? a=some u->w'.cell? a=some u) (J:∀b s,w.shape? b=some s->w'.shape? b=some s) (a:Addr):∀(i:Nat) (xs:List AV),RepAt τ w a i xs->RepAt τ w' a i xs
 |_,[],_=>by simp only[RepAt]
 |i,x::xs,h=>by
  simp only[RepAt]at*
  obtain⟨⟨u,D,T,E⟩,M⟩:=h
  exact⟨⟨u,⟨I _ _ D.1,D.2⟩,T,Rep.keep I J x u E⟩,RepAt.keep I J a (i+1) xs M⟩
theorem ar.keep {τ:Store} {w w':World} (I:∀a u,w.cell? a=some u->w'.cell? a=some u) (J:∀b s,w.shape? b=some s->w'.shape? b=some s) (a:Addr) (sz:Nat):∀(i:Nat) (rs:List (List AV)),ar τ w a sz i rs->ar τ w' a sz i rs
 |_,[],_=>by simp only[ar]
 |i,r::rs,h=>by
  simp only[ar]at*
  obtain⟨D,E,M⟩:=h
  exact⟨D,RepAt.keep I J a _ r E,ar.keep I J a sz (i+1) rs M⟩
end
def rf (w w':World):Prop:=(∀a u,w.cell? a=some u->w'.cell? a=some u)/\∀b s,w.shape? b=some s->w'.shape? b=some s
theorem rf.put {w:World} {l:Nat} {o:Obj} (J:Obj) (h:w.heap[l]? =some o) (I:o.isCells=false):rf w (w.putObj l J):=by
 constructor
 ·intro a u E
  by_cases e:a.block=l
  ·unfold World.cell? at E
   rw[e,h]at E
   cases o<;>simp[Obj.isCells]at I E
  ·rw[World.cell?_of_block (w:=w) (World.putObj_heap_other e)];exact E
 ·intro b s D
  by_cases e:b=l
  ·unfold World.shape? at D
   rw[e,h]at D
   cases o<;>simp[Obj.isCells]at I D
  ·unfold World.shape? at D ⊢
   rw[World.putObj_heap_other e];exact D
theorem rf.alloc (w:World) (o:Obj):rf w (w.alloc o):=by
 have h:=Ev.alloc0 (σ:=[]) (w:=w) o
 exact⟨λa u D=>(h.cell a u D (λm=>by obtain⟨x,E,_⟩:=m;simp at E)).1,h.shape⟩
section
variable {F:Fence} {n:Nat} {P:Program} {ops:Array Oper} {Q:Exit->Act->World->Prop} {a:Act} {w:World} {rest:List Oper} {o:Oper}
theorem qW (M:∀f,F.fn f) {t:TypeId} {x y:Operand} {ad:Addr} {v:Value} {w':World} (O:o.guard=none) (E:o.op= .store t x y) (V:a.eval x= .pointer (some ad)) (X:a.eval y=v) (T:(storeVar t ad v).run P w= .ok () w')
  (h:wpListIn F n P ops Q rest (a.put o.dst undef) w'):wpListIn F n P ops Q (o::rest) a w:=by
 refine wpListIn_plain O λK N=>⟨λf _=>M f,?_⟩
 have I:o.semAt F.round a.eval=execOp a.eval o:=by
  cases F.round with
  |none=>rfl
  |some l=>exact Oper.semAt_some l _ _ (λc D=>by rw[E]at D;cases D)
 rw[I]
 have J:(execOp a.eval o).run P w= .ok .skip w':=by simp[execOp,E,Instr.storeAt,V,X,Instr.sureAddr,T]
 rw[J]
 exact N _ _ h
theorem rc {t:TypeId} {d:TypeDesc} {m:Nat} {b:Nat} {vs:Array Value} {e:TypeId} (M:P.underlying t=some d) (I:bj P t=some m) (D:aggD d=true) (E:w.heap[b]? =some (.cells vs e (0,0))) (J:vs.size=m):
  (loadVar t ⟨b,0,none⟩).run P w= .ok (.agg vs) w:=by
 have:=iN (P:=P) M I (by simp[D]) ⟨b,0,none⟩ vs.toList (by simpa using J) w (λj v N=>by
  rw[add_lit,Nat.zero_add,cell_of_row w b j vs e (0,0) E,←Array.getElem?_toList]
  exact N)
 rw[this,D]
 simp
theorem qZ {t:TypeId} {m:Nat} {b:Nat} {cur:Array Value} {v:Value} {e:TypeId} (M:bj P t=some m) (J:w.heap[b]? =some (.cells cur e (0,0))) (O:cur.size=m) (N:v.cells.size=m) (I:∀u∈v.cells.toList,u.oneCell'=true):
  (storeVar t ⟨b,0,none⟩ v).run P w= .ok () (w.setRow b v.cells):=by
 have D:=run_storeCells_at P b 0 e v.cells.toList 0 cur w J (by simp;omega) I
 unfold storeVar
 simp[bv M,N]
 have E:(cur.toList.take 0++v.cells.toList++cur.toList.drop (0+v.cells.toList.length)).toArray=v.cells:=by
  rw[take_zero,nil_append,Nat.zero_add,drop_of_length_le (by simp;omega),append_nil]
 simp only[Nat.add_zero]at D
 rw[E]at D
 exact D
theorem rX {fn:Func} {p q:Tmp} {t u:TypeId} (h:fn.results=#[.cell p t,.cell q u]) {tmps:Array Value} {A B:Addr} (I:tmps.getD p undef= .pointer (some A)) (J:tmps.getD q undef= .pointer (some B)) {x y:Value}
  (M:(loadVar t A).run P w= .ok x w) (N:(loadVar u B).run P w= .ok y w):(results fn tmps).run P w= .ok (.tuple #[x,y]) w:=by
 have D:(tmps[p]?.getD undef)= .pointer (some A):=by simpa using I
 have E:(tmps[q]?.getD undef)= .pointer (some B):=by simpa using J
 simp only[results,h]
 simp[Sem.run_bind,D,E,asAddr,M,N,Result.andThen]
end
end
section
attribute [local go_sem] Oper.semAt_some
theorem Ev.stays {σ0 σ:Store} {w W W':World} (h:Ev σ0 w σ W) (D:rf W W') (E:W'.os=W.os) (I:W'.tape=W.tape) (J:W'.output=W.output) (M:W.heap.size<=W'.heap.size) (N:∀b,b<w.heap.size->W'.heap[b]? =W.heap[b]?):Ev σ0 w σ W' where
 os:=E.trans h.os
 tape:=I.trans h.tape
 output:=J.trans h.output
 size:=Nat.le_trans h.size M
 block b hb hn:=⟨(N b hb).trans (h.block b hb hn).1,(h.block b hb hn).2⟩
 shape b s hb:=D.2 _ _ (h.shape b s hb)
 cell a v hv hm:=⟨D.1 _ _ (h.cell a v hv hm).1,(h.cell a v hv hm).2⟩
theorem Ev.write {σ:Store} {w:World} {b:Nat} {e:TypeId} {cs cs':List AV} {vs new:Array Value} (E:(b,AObj.cells e cs)∈σ) (D:w.heap[b]? =some (.cells vs e (0,0))) (I:new.size=vs.size):Ev σ w (σ.set b (.cells e cs')) (w.setRow b new):=Ev.setRow E D I
def fr (n:Nat) (s:U):Store:=[(n,.cells 27 s.cs),(n+1,.cells 27 zU),(n+2,.cells 39 [.int .i64 0])]
theorem rW (n:Nat) (s:U):(fr n s).keys=[n,n+1,n+2]:=rfl
def zArr:Array Value:=#[Value.int IntKind.i64 0,Value.int IntKind.i64 0,Value.int IntKind.i64 0,Value.int IntKind.i64 0,Value.string {data:=#[]},Value.slice none 0 0,Value.slice none 0 0,Value.slice none 0 0]
theorem zArr_rep (τ:Store) (w:World):RepL τ w zU zArr.toList:=by
 simp only[zU,zArr,RepL,Rep]
 exact⟨_,_,rfl,rfl,_,_,rfl,rfl,_,_,rfl,rfl,_,_,rfl,rfl,_,_,rfl,rfl,_,_,rfl,rfl,_,_,rfl,rfl,_,_,rfl,rfl,rfl⟩
theorem zArr_one:∀v∈zArr.toList,v.oneCell'=true:=by
 intro v D
 simp[zArr]at D
 rcases D with rfl|rfl|rfl<;>rfl
structure RI (ρ:Store) (w:World) (sv:Value) (s:U) (W:World):Prop where
 ev:Ev [] w (fr w.heap.size s) W
 size:w.heap.size+4<=W.heap.size
 r1:W.heap[w.heap.size+1]? =some (.cells zArr 27 (0,0))
 r2:W.heap[w.heap.size+2]? =some (.cells #[.int .i64 0] 39 (0,0))
 r3:W.heap[w.heap.size+3]? =some (.cells #[sv] 60 (0,0))
 box:∃us,W.heap[w.heap.size]? =some (.cells us 27 (0,0))/\us.size=8/\(∀v∈us.toList,v.oneCell'=true)/\RepL (fr w.heap.size s++ρ) W s.cs us.toList
section
variable {ρ:Store} {w:World} {sv:Value} {s:U} {W W':World}
theorem RI.stays (h:RI ρ w sv s W) (E:rf W W') (T:W'.os=W.os) (V:W'.tape=W.tape) (X:W'.output=W.output) (I:W.heap.size<=W'.heap.size) (D:∀b,b<w.heap.size+4->W'.heap[b]? =W.heap[b]?):RI ρ w sv s W' where
 ev:=h.ev.stays E T V X I (λb Y=>D b (by omega))
 size:=Nat.le_trans h.size I
 r1:=(D _ (by omega)).trans h.r1
 r2:=(D _ (by omega)).trans h.r2
 r3:=(D _ (by omega)).trans h.r3
 box:=by
  obtain⟨us,J,M,N,O⟩:=h.box
  exact⟨us,(D _ (by omega)).trans J,M,N,RepL.keep E.1 E.2 _ _ O⟩
theorem RI.put (h:RI ρ w sv s W) {l:Nat} {o:Obj} (D:Obj) (M:w.heap.size+4<=l) (I:W.heap[l]? =some o) (E:o.isCells=false):RI ρ w sv s (W.putObj l D):=
 h.stays (rf.put D I E) rfl rfl rfl (by simp) (λb J=>World.putObj_heap_other (by omega))
theorem RI.alloc (h:RI ρ w sv s W) (o:Obj):RI ρ w sv s (W.alloc o):=
 h.stays (rf.alloc W o) rfl rfl rfl (by simp) (λb D=>Below.heap_alloc W o b (by have:=h.size;omega))
theorem RI.step (h:RI ρ w sv s W) (e:Ev (fr w.heap.size s) W (fr w.heap.size s) W') (D:∀b,w.heap.size<=b->b<w.heap.size+3->W'.heap[b]? =W.heap[b]?):RI ρ w sv s W' where
 ev:=h.ev.trans e
 size:=Nat.le_trans h.size e.size
 r1:=(D _ (by omega) (by omega)).trans h.r1
 r2:=(D _ (by omega) (by omega)).trans h.r2
 r3:=(e.block _ (by have:=h.size;omega) (by rw[rW];simp)).1.trans h.r3
 box:=by
  obtain⟨us,E,I,J,M⟩:=h.box
  exact⟨us,(D _ (by omega) (by omega)).trans E,I,J,RepL.ev e _ _ M⟩
theorem RI.sat {G:Glob} (h:RI ρ w sv s W) (M:Sat G ρ w):Sat G (fr w.heap.size s++ρ) W:=by
 obtain⟨us,E,N,I,J⟩:=h.box
 refine Sat.step (σ:=[]) (by simpa using M) h.ev (by rw[rW];simp) (λb D=>.inr ?_) (λb x D=>?_)
 ·rw[rW]at D
  simp at D
  omega
 ·simp only[fr,mem_cons,not_mem_nil,or_false,Prod.mk.injEq]at D
  rcases D with⟨rfl,rfl⟩|⟨rfl,rfl⟩|⟨rfl,rfl⟩
  ·exact⟨us,E,I,J⟩
  ·exact⟨zArr,h.r1,zArr_one,zArr_rep _ _⟩
  ·exact⟨_,h.r2,by simp;rfl,by simp[RepL,Rep]⟩
end
structure RA (ρ:Store) (w:World) (sv:Value) (s:U) (p:Pt) (P:Nat) (W:World):Prop where
 ri:RI ρ w sv s W
 far:w.heap.size+4<=P
 box:∃ps,W.heap[P]? =some (.cells ps 29 (0,0))/\ps.size=18/\(∀v∈ps.toList,v.oneCell'=true)/\RepL (fr w.heap.size s++ρ) W p.cs ps.toList
theorem RA.put {ρ:Store} {w:World} {sv:Value} {s:U} {p:Pt} {P:Nat} {W:World} (h:RA ρ w sv s p P W) {l:Nat} {o:Obj} (I:Obj) (V:w.heap.size+4<=l) (E:W.heap[l]? =some o) (D:o.isCells=false):RA ρ w sv s p P (W.putObj l I) where
 ri:=h.ri.put I V E D
 far:=h.far
 box:=by
  obtain⟨ps,J,N,O,T⟩:=h.box
  have M:P≠l:=λe=>by rw[e,E]at J;cases J;cases D
  exact⟨ps,(World.putObj_heap_other M).trans J,N,O,RepL.keep (rf.put I E D).1 (rf.put I E D).2 _ _ T⟩
theorem res_ws {τ:Store} {W:World} {s:U} {e:Int} {v:Value} (h:Rep τ W (aO (s,e)) v):∃D,v= .tuple #[.agg D,.int .i64 e]/\D.size=8/\(∀u∈D.toList,u.oneCell'=true)/\RepL τ W s.cs D.toList:=by
 unfold aO at h
 simp only[Rep,RepL]at h
 obtain⟨vs,rfl,u,us,J,⟨D,rfl,M,E⟩,T,O,N,rfl,rfl⟩:=h
 subst N
 have I:vs=#[Value.agg D,.int .i64 e]:=Array.ext' J
 exact⟨D,by rw[I],by have:=E.length;simpa[U.cs_len]using this,M,E⟩
section
variable (G:Glob) (hG:GOk G)
include hG
set_option maxRecDepth 100000 in
set_option maxHeartbeats 8000000 in
theorem f20 (l:List Pt) (st:Nat->U) (hst:∀k (hk:k<l.length),revP (st k) (l[l.length-1-k]'(by omega))=(st (k+1),0)) (hg:∀k,k<=l.length->Good (st k)/\(st k).kind=0) (hp:∀p∈l,p.unit.Short/\p.unit.flat.length<=1000000/\p.words.length<1000000) (hn:l.length<140737488355328):
  Pure G Tryz.prog 20 [.agg (st 0).cs,.lst 18 (l.map Pt.cs)] (aO (st l.length,0)):=by
 refine⟨⟨_,Tryz.func20,by kernel_rfl,by kernel_rfl⟩,λρ w vs hS hA=>?_⟩
 simp only[nil_append]at hS hA
 obtain⟨uv,lv,rfl,h1,h2⟩:=ji hA
 simp only[Rep]at h1
 obtain⟨us,rfl,ho,hr⟩:=h1
 have hus:us.size=8:=by have:=hr.length;simpa[U.cs_len]using this
 obtain⟨la,cap,rfl,hrow⟩:∃la cap,lv= .slice la l.length cap/\((la=none/\cap=0/\l=[])\/∃a,la=some a/\ar ρ w a 18 0 (l.map Pt.cs)):=by
  simp only[Rep]at h2
  rcases h2 with⟨rfl,h⟩|⟨a,cap,h3,_,_,h4⟩
  ·have:l=[]:=by simpa using h
   subst this
   exact⟨none,0,rfl,.inl ⟨rfl,rfl,rfl⟩⟩
  ·rw[length_map]at h3
   exact⟨some a,cap,h3,.inr ⟨a,rfl,h4⟩⟩
 clear hA h2
 have hpc:∀j,∃vs:List Value,vs.length=18/\∀hj:j<l.length,RepL ρ w l[j].cs vs/\(∀v∈vs,v.oneCell'=true)/\∀a,la=some a->∀i v,vs[i]? =some v->w.cell? ((a.add (j*18)).add i)=some v:=by
  intro j
  by_cases hj:j<l.length
  ·rcases hrow with⟨_,_,rfl⟩|⟨a,rfl,h⟩
   ·simp at hj
   ·have h3:=h.get j (by rw[length_map];exact hj)
    obtain⟨_,h3⟩:=h3
    rw[Nat.zero_add,getElem_map]at h3
    obtain⟨vs,l1,l2,l3,l4⟩:=iO (ad:=a.add (j*18)) (cs:=l[j].cs) h3.shift 18 (by rw[Pt.cs_len];exact Nat.le_refl _)
    exact⟨vs,l1,λ_=>⟨by simpa[take_of_length_le (show l[j].cs.length<=18 from Nat.le_of_eq (Pt.cs_len _))]using l2,l3,λa' e i v hv=>by cases e;exact l4 i v hv⟩⟩
  ·exact⟨List.replicate 18 undef,by simp,λh=>absurd h hj⟩
 obtain⟨pc,hpc⟩:=Classical.skolem.1 hpc
 refine(callsIn_wide (n:=10)).1 (callsIn_of_wp_marks Tryz.func20 rfl trivial ?_ rfl)
 simp only[Tryz.ntmps20,size_toArray,length_cons,length_nil,Nat.reduceAdd,Nat.reduceSub,Array.replicate_succ,Array.replicate_zero,push_toArray,append_toArray,nil_append,cons_append]
 gi_wp2_with (refine AI trivial ?_;gi_at_call 49;refine(bwd_in _ _ _ _).mono ?_;rintro e w' ⟨rfl,rfl⟩)
 obtain⟨W0,hW0⟩:∃W0,((((w.alloc (Obj.cells us 27)).alloc (Obj.cells zArr 27)).alloc (Obj.cells #[Value.int IntKind.i64 0] 39)).alloc (Obj.cells #[Value.slice la l.length cap] 60))=W0:=⟨_,rfl⟩
 rw[show(#[Value.int IntKind.i64 0,Value.int IntKind.i64 0,Value.int IntKind.i64 0,Value.int IntKind.i64 0,Value.string {data:=#[]},Value.slice none 0 0,Value.slice none 0 0,Value.slice none 0 0]:Array Value)=zArr from rfl,hW0]
 have hsz0:W0.heap.size=w.heap.size+4:=by rw[←hW0];simp
 have hI0:RI ρ w (.slice la l.length cap) (st 0) W0:=by
  have ev:Ev [] w (fr w.heap.size (st 0)) W0:=by
   have e1:=Ev.alloc (σ:=[]) (w:=w) (.cells us 27) (.cells 27 (st 0).cs)
   have e2:=e1.trans (Ev.alloc (w:=w.alloc (.cells us 27)) (.cells zArr 27) (.cells 27 zU))
   have e3:=e2.trans (Ev.alloc (w:=(w.alloc (.cells us 27)).alloc (.cells zArr 27)) (.cells #[Value.int IntKind.i64 0] 39) (.cells 39 [.int .i64 0]))
   have e4:=e3.trans (Ev.alloc0 (Obj.cells #[Value.slice la l.length cap] 60))
   rw[hW0]at e4
   refine e4.trans (Ev.of_sub (λq hq=>?_) _)
   simp only[fr,mem_cons,not_mem_nil,or_false,World.size_alloc]at hq ⊢
   rcases hq with rfl|rfl|rfl<;>simp
  have hb:∀(A:World) (o:Obj) b,b<A.heap.size->(A.alloc o).heap[b]? =A.heap[b]? :=λA o b h=>Below.heap_alloc A o b h
  refine⟨ev,by omega,?_,?_,?_,us,?_,hus,ho,?_⟩
  ·rw[←hW0,hb _ _ _ (by simp),hb _ _ _ (by simp)]
   have:=World.alloc_heap_new (w.alloc (Obj.cells us 27)) (Obj.cells zArr 27)
   rwa [World.size_alloc]at this
  ·rw[←hW0,hb _ _ _ (by simp)]
   have:=World.alloc_heap_new ((w.alloc (Obj.cells us 27)).alloc (Obj.cells zArr 27)) (Obj.cells #[Value.int IntKind.i64 0] 39)
   rwa [World.size_alloc,World.size_alloc]at this
  ·rw[←hW0]
   have:=World.alloc_heap_new (((w.alloc (Obj.cells us 27)).alloc (Obj.cells zArr 27)).alloc (Obj.cells #[Value.int IntKind.i64 0] 39)) (Obj.cells #[Value.slice la l.length cap] 60)
   rwa [World.size_alloc,World.size_alloc,World.size_alloc]at this
  ·rw[←hW0,hb _ _ _ (by simp;omega),hb _ _ _ (by simp;omega),hb _ _ _ (by simp)]
   exact World.alloc_heap_new w _
  ·exact RepL.ev ev _ _ (by simpa using hr)
 refine rounds (gf:=104) (lb:=#[.pointer (some ⟨w.heap.size+1+1+1,0,none⟩)]) rfl (enters_of Tryz.func104 (by kernel_rfl) rfl) l.length
  (λk=>#[.int .i64 ((l.length-1-k:Nat):Int),.agg (pc (l.length-1-k)).toArray]) (λ_=>rfl)
  (λk W=>RI ρ w (.slice la l.length cap) (st k) W)
  (λk b W=>∃(hk:k<l.length) (P:Nat),RA ρ w (.slice la l.length cap) (st k) (l[l.length-1-k]'(by omega)) P W/\b={tmps:=#[Value.agg us,Value.slice la l.length cap,Value.pointer (some {block:=w.heap.size,off:=0}),undef,Value.pointer (some {block:=w.heap.size+1,off:=0}),Value.pointer (some {block:=w.heap.size+1+1,off:=0}),undef,Value.pointer (some {block:=P,off:=0}),undef,undef,Value.slice la l.length cap,Value.func (Fn.func 104) #[] #[Value.pointer (some {block:=w.heap.size+1+1+1,off:=0})],.int .i64 ((l.length-1-k:Nat):Int),.agg (pc (l.length-1-k)).toArray,undef,undef,undef,undef,undef,undef,undef,undef,undef,undef,undef,undef],defers:=[]})
  ?iter ?put ?new ?putA hI0 ?assign ?body ?done
 case put=>exact λk W l o o' h hl ho hc=>h.put o' (by omega) ho hc
 case new=>exact λk W o h=>h.alloc o
 case putA=>
  rintro k b W l o o' ⟨hk,P,h,rfl⟩ hl ho hc
  exact⟨hk,P,h.put o' (by omega) ho hc,rfl⟩
 case iter=>
  intro lp J hJ hY W h0
  have hBs:∀k W,J k W->W.cell? ⟨w.heap.size+1+1+1,0,none⟩=some (.slice la l.length cap):=λk W h=>by
   have:=(hJ k W h).r3
   rw[Lib.cell_of_heap this];rfl
  rcases hrow with⟨rfl,rfl,rfl⟩|⟨a,rfl,h⟩
  ·exact bwd0 lp _ J W (hBs 0 W h0) h0
  ·refine bwd1 lp _ a l.length cap pc hn (λj=>(hpc j).1) J hY (λk W h=>⟨hBs k W h,λj hj i v hv=>?_⟩) W h0
   exact((hJ k W h).ev.cell _ _ (((hpc j).2 hj).2.2 a rfl i v hv) (λm=>by obtain⟨x,hx,_⟩:=m;simp at hx)).1
 case assign=>
  intro k lp W K hi hk hK
  obtain⟨p1,p2⟩:=hpc (l.length-1-k)
  obtain⟨q1,q2,q3⟩:=p2 (by omega)
  have hls:(storeVar 29 ⟨W.heap.size,0,none⟩ (.agg (pc (l.length-1-k)).toArray)).run Tryz.prog (W.alloc (Obj.cells (#[Value.int IntKind.i64 0,Value.int IntKind.i64 0,Value.int IntKind.i64 0,Value.int IntKind.i64 0,Value.int IntKind.i64 0,Value.int IntKind.i64 0,Value.int IntKind.i64 0,Value.int IntKind.i64 0,Value.int IntKind.i64 0,Value.int IntKind.i64 0,Value.int IntKind.i64 0,Value.int IntKind.i64 0,Value.string {data:=#[]},Value.slice none 0 0,Value.slice none 0 0,Value.slice none 0 0,Value.string {data:=#[]},Value.slice none 0 0]:Array Value) 29))= .ok () _:=
   qZ (m:=18) (by kernel_rfl) (World.alloc_heap_new W _) rfl (by simpa[Value.cells]using p1) (by simpa[Value.cells]using q2)
  gi_wp2_with (refine qW (λ_=>trivial) (t:=29) (x:=.tmp 7) (y:=.tmp 13) rfl rfl rfl rfl hls ?_)
  clear hls
  simp only[Value.cells]
  generalize hz18:(#[Value.int IntKind.i64 0,Value.int IntKind.i64 0,Value.int IntKind.i64 0,Value.int IntKind.i64 0,Value.int IntKind.i64 0,Value.int IntKind.i64 0,Value.int IntKind.i64 0,Value.int IntKind.i64 0,Value.int IntKind.i64 0,Value.int IntKind.i64 0,Value.int IntKind.i64 0,Value.int IntKind.i64 0,Value.string {data:=#[]},Value.slice none 0 0,Value.slice none 0 0,Value.slice none 0 0,Value.string {data:=#[]},Value.slice none 0 0]:Array Value)=z18
  have hsz:=hi.size
  have hnew:=World.alloc_heap_new W (Obj.cells z18 29)
  have hzs:z18.size=18:=by rw[←hz18];rfl
  have e1:Ev (fr w.heap.size (st k)) W (fr w.heap.size (st k)) ((W.alloc (Obj.cells z18 29)).setRow W.heap.size (pc (l.length-1-k)).toArray):=by
   have a1:=Ev.alloc (σ:=fr w.heap.size (st k)) (w:=W) (Obj.cells z18 29) (.cells 29 [])
   have a2:=a1.trans (Ev.write (cs':=[]) (new:=(pc (l.length-1-k)).toArray) mem_cons_self hnew (by simp[p1,hzs]))
   refine a2.trans (Ev.of_sub (λq hq=>?_) _)
   simp only[Store.set,if_true]
   exact mem_cons_of_mem _ hq
  have hR:RI ρ w (.slice la l.length cap) (st k) ((W.alloc (Obj.cells z18 29)).setRow W.heap.size (pc (l.length-1-k)).toArray):=hi.step e1 λb b1 b2=>by
   rw[setRow_other _ _ _ _ (by omega),Below.heap_alloc _ _ _ (by omega)]
  refine hK _ _ ⟨by simp,λb o hb ho hc=>?_⟩ ⟨hk,W.heap.size,⟨hR,hsz,_,setRow_heap _ _ z18 _ 29 (0,0) hnew,by simp[p1],by simpa using q2,?_⟩,rfl⟩
  ·have hlt:b<W.heap.size:=(Array.getElem?_eq_some_iff.1 ho).1
   rw[setRow_other _ _ _ _ (by omega),Below.heap_alloc _ _ _ hlt]
   exact ho
  ·exact RepL.ev (σ:=[]) hR.ev _ _ (by simpa using q1)
 case body=>
  rintro k lp b W ⟨hk,P,hRA,rfl⟩ _
  obtain⟨vs,b1,b2,b3,b4⟩:=hRA.ri.box
  obtain⟨ps,c1,c2,c3,c4⟩:=hRA.box
  have hl1:=rc (P:=Tryz.prog) (t:=27) (m:=8) (b:=w.heap.size) Tryz.underlying27 (by kernel_rfl) rfl b1 b2
  have hl2:=rc (P:=Tryz.prog) (t:=29) (m:=18) (b:=P) Tryz.underlying29 (by kernel_rfl) rfl c1 c2
  obtain⟨g1,g2⟩:=hg k (by omega)
  obtain⟨s1,s2,s3⟩:=hp _ (getElem_mem (show l.length-1-k<l.length by omega))
  have hC:=(f14 G hG (st k) g1 g2 _ s1 s2 s3).2 (fr w.heap.size (st k)++ρ) W #[.agg vs,.agg ps] (by simpa using hRA.ri.sat hS) (by
   simp only[nil_append,RepL,Rep]
   exact⟨_,_,rfl,⟨vs,rfl,b3,b4⟩,_,_,rfl,⟨ps,rfl,c3,c4⟩,rfl⟩)
  rw[hst k hk]at hC
  clear hpc hrow
  have hsz:=hRA.ri.size
  have far:=hRA.far
  have hls8:∀(A:World) (xs:Array Value),xs.size=8->(∀u∈xs.toList,u.oneCell'=true)->(storeVar 27 ⟨A.heap.size,0,none⟩ (.agg xs)).run Tryz.prog (A.alloc (Obj.cells (#[Value.int IntKind.i64 0,Value.int IntKind.i64 0,Value.int IntKind.i64 0,Value.int IntKind.i64 0,Value.string {data:=#[]},Value.slice none 0 0,Value.slice none 0 0,Value.slice none 0 0]:Array Value) 27))= .ok () ((A.alloc (Obj.cells (#[Value.int IntKind.i64 0,Value.int IntKind.i64 0,Value.int IntKind.i64 0,Value.int IntKind.i64 0,Value.string {data:=#[]},Value.slice none 0 0,Value.slice none 0 0,Value.slice none 0 0]:Array Value) 27)).setRow A.heap.size xs):=
   λA xs x1 x2=>qZ (m:=8) (by kernel_rfl) (World.alloc_heap_new A _) rfl (by simpa[Value.cells]using x1) (by simpa[Value.cells]using x2)
  have hl8:∀(A:World) (xs:Array Value),xs.size=8->(loadVar 27 ⟨A.heap.size,0,none⟩).run Tryz.prog ((A.alloc (Obj.cells (#[Value.int IntKind.i64 0,Value.int IntKind.i64 0,Value.int IntKind.i64 0,Value.int IntKind.i64 0,Value.string {data:=#[]},Value.slice none 0 0,Value.slice none 0 0,Value.slice none 0 0]:Array Value) 27)).setRow A.heap.size xs)= .ok (.agg xs) ((A.alloc (Obj.cells (#[Value.int IntKind.i64 0,Value.int IntKind.i64 0,Value.int IntKind.i64 0,Value.int IntKind.i64 0,Value.string {data:=#[]},Value.slice none 0 0,Value.slice none 0 0,Value.slice none 0 0]:Array Value) 27)).setRow A.heap.size xs):=
   λA xs x1=>rc (m:=8) Tryz.underlying27 (by kernel_rfl) rfl (setRow_heap _ _ _ _ 27 (0,0) (World.alloc_heap_new A _)) x1
  have hls2:∀(A:World) (xs:Array Value),xs.size=8->(∀u∈xs.toList,u.oneCell'=true)->A.heap[w.heap.size]? =some (.cells vs 27 (0,0))->(storeVar 27 ⟨w.heap.size,0,none⟩ (.agg xs)).run Tryz.prog ((A.alloc (Obj.cells (#[Value.int IntKind.i64 0,Value.int IntKind.i64 0,Value.int IntKind.i64 0,Value.int IntKind.i64 0,Value.string {data:=#[]},Value.slice none 0 0,Value.slice none 0 0,Value.slice none 0 0]:Array Value) 27)).setRow A.heap.size xs)= .ok () (((A.alloc (Obj.cells (#[Value.int IntKind.i64 0,Value.int IntKind.i64 0,Value.int IntKind.i64 0,Value.int IntKind.i64 0,Value.string {data:=#[]},Value.slice none 0 0,Value.slice none 0 0,Value.slice none 0 0]:Array Value) 27)).setRow A.heap.size xs).setRow w.heap.size xs):=
   λA xs x1 x2 x3=>by
    have hlt:w.heap.size<A.heap.size:=(Array.getElem?_eq_some_iff.1 x3).1
    exact qZ (m:=8) (cur:=vs) (e:=27) (by kernel_rfl) (by rw[setRow_other _ _ _ _ (by omega),Below.heap_alloc _ _ _ hlt];exact x3) b2 (by simpa[Value.cells]using x1) (by simpa[Value.cells]using x2)
  gi_wp2_with (first|(refine qY (λ_=>trivial) (t:=27) (x:=.tmp 2) rfl rfl rfl hl1 ?_)|(refine qY (λ_=>trivial) (t:=29) (x:=.tmp 7) rfl rfl rfl hl2 ?_)|(refine AI trivial ?_;gi_at_call 14;refine(CallsIn.inRound lp ((callsIn_wide (n:=7)).2 hC)).mono ?_;rintro e W2 ⟨v,r,σ',rfl,⟨rfl,rfl⟩,hS2,hE2,hR2⟩;obtain⟨ws,rfl,w8,w1,wR⟩:=res_ws hR2;(have hb2:=(hE2.block w.heap.size (by omega) (by simp[Store.keys])).1.trans b1))|(refine qW (λ_=>trivial) (t:=27) (x:=.tmp 8) (y:=.tmp 18) rfl rfl rfl rfl (hls8 _ _ w8 w1) ?_)|(refine qY (λ_=>trivial) (t:=27) (x:=.tmp 8) rfl rfl rfl (hl8 _ _ w8) ?_)|(refine qW (λ_=>trivial) (t:=27) (x:=.tmp 2) (y:=.tmp 24) rfl rfl rfl rfl (hls2 _ _ w8 w1 hb2) ?_))
  rw[show(#[Value.int IntKind.i64 0,Value.int IntKind.i64 0,Value.int IntKind.i64 0,Value.int IntKind.i64 0,Value.string {data:=#[]},Value.slice none 0 0,Value.slice none 0 0,Value.slice none 0 0]:Array Value)=zArr from rfl,hsz0]
  clear hls8 hl8 hls2 hl1 hl2 hC
  have hlt:w.heap.size<W2.heap.size:=(Array.getElem?_eq_some_iff.1 hb2).1
  have hlt2:=hE2.size
  have hnew:=World.alloc_heap_new W2 (Obj.cells zArr 27)
  have old:∀b,b<W.heap.size->b≠w.heap.size->(((W2.alloc (Obj.cells zArr 27)).setRow W2.heap.size ws).setRow w.heap.size ws).heap[b]? =W.heap[b]? :=λb h1 h2=>by
   rw[setRow_other _ _ _ _ h2,setRow_other _ _ _ _ (by omega),Below.heap_alloc _ _ _ (by omega)]
   exact(hE2.block b h1 (by simp[Store.keys])).1
  have e2:Ev (fr w.heap.size (st k)) W2 (fr w.heap.size (st (k+1))) (((W2.alloc (Obj.cells zArr 27)).setRow W2.heap.size ws).setRow w.heap.size ws):=by
   have a1:=Ev.alloc (σ:=fr w.heap.size (st k)) (w:=W2) (Obj.cells zArr 27) (.cells 27 [])
   have a2:=a1.trans (Ev.write (cs':=[]) (new:=ws) mem_cons_self hnew (by rw[w8];rfl))
   have a3:=a2.trans (Ev.write (b:=w.heap.size) (e:=27) (cs:=(st k).cs) (cs':=(st (k+1)).cs) (vs:=vs) (new:=ws) (by simp[Store.set,fr]) (by
    rw[setRow_other _ _ _ _ (by omega),Below.heap_alloc _ _ _ hlt];exact hb2) (by rw[w8,b2]))
   refine a3.trans (Ev.of_sub (λq hq=>?_) _)
   have hne:¬W2.heap.size=w.heap.size:=by omega
   simp only[Store.set,if_true,fr,hne,if_false,mem_cons,not_mem_nil,or_false]at hq ⊢
   exact .inr hq
  have e1:Ev (fr w.heap.size (st k)) W (fr w.heap.size (st k)) W2:=by
   have:=Ev.frame (σr:=fr w.heap.size (st k)) hE2 (σ:=fr w.heap.size (st k)) (λq hq=>by simpa using hq)
   simpa using this
  refine⟨trivial,⟨by simp;omega,λb o hb ho hc=>(old b (Array.getElem?_eq_some_iff.1 ho).1 (by omega)).trans ho⟩,⟨(hRA.ri.ev.trans e1).trans e2,by simp;omega,?_,?_,?_,ws,?_,w8,w1,?_⟩⟩
  ·exact(old _ (by omega) (by omega)).trans hRA.ri.r1
  ·exact(old _ (by omega) (by omega)).trans hRA.ri.r2
  ·exact(old _ (by omega) (by omega)).trans hRA.ri.r3
  ·exact setRow_heap _ _ vs _ 27 (0,0) (by rw[setRow_other _ _ _ _ (by omega),Below.heap_alloc _ _ _ hlt];exact hb2)
  ·exact RepL.ev e2 _ _ (by simpa using wR)
 case done=>
  intro D W hD hi hdef
  obtain⟨vs,b1,b2,b3,b4⟩:=hi.box
  have hl1:=rc (P:=Tryz.prog) (t:=27) (m:=8) (b:=w.heap.size) Tryz.underlying27 (by kernel_rfl) rfl b1 b2
  have hls4:(storeVar 27 ⟨w.heap.size+1,0,none⟩ (.agg vs)).run Tryz.prog W= .ok () (W.setRow (w.heap.size+1) vs):=
   qZ (m:=8) (by kernel_rfl) hi.r1 rfl (by simpa[Value.cells]using b2) (by simpa[Value.cells]using b3)
  have hr2:(W.setRow (w.heap.size+1) vs).heap[w.heap.size+1+1]? =some (.cells #[.int .i64 0] 39 (0,0)):=by
   rw[setRow_other _ _ _ _ (by omega)];exact hi.r2
  have hls5:(storeVar 39 ⟨w.heap.size+1+1,0,none⟩ (.int .i64 0)).run Tryz.prog (W.setRow (w.heap.size+1) vs)= .ok () ((W.setRow (w.heap.size+1) vs).setRow (w.heap.size+1+1) #[.int .i64 0]):=
   qZ (m:=1) (by kernel_rfl) hr2 rfl rfl (by simp[Value.cells];rfl)
  gi_wp2_with (first|(refine qY (λ_=>trivial) (t:=27) (x:=.tmp 2) rfl rfl rfl hl1 ?_)|(refine qW (λ_=>trivial) (t:=27) (x:=.tmp 4) (y:=.tmp 25) rfl rfl rfl rfl hls4 ?_)|(refine qW (λ_=>trivial) (t:=39) (x:=.tmp 5) (y:=.const (.int .i64 0)) rfl rfl rfl rfl hls5 ?_))
  have hr2':((W.setRow (w.heap.size+1) vs).setRow (w.heap.size+1+1) #[.int .i64 0]).heap[w.heap.size+1+1]? =some (.cells #[.int .i64 0] 39 (0,0)):=setRow_heap _ _ _ _ 39 (0,0) hr2
  have hr1':((W.setRow (w.heap.size+1) vs).setRow (w.heap.size+1+1) #[.int .i64 0]).heap[w.heap.size+1]? =some (.cells vs 27 (0,0)):=by
   rw[setRow_other _ _ _ _ (by omega)];exact setRow_heap _ _ _ _ 27 (0,0) hi.r1
  have hd:((W.setRow (w.heap.size+1) vs).setRow (w.heap.size+1+1) #[.int .i64 0]).heap[D]? =some (.deferred (some [])):=by
   rw[setRow_other _ _ _ _ (by omega),setRow_other _ _ _ _ (by omega)];exact hdef
  have ev:Ev (fr w.heap.size (st l.length)) W [(w.heap.size+1,.cells 27 (st l.length).cs),(w.heap.size+2,.cells 39 [.int .i64 0])] ((W.setRow (w.heap.size+1) vs).setRow (w.heap.size+1+1) #[.int .i64 0]):=by
   have a1:=Ev.write (σ:=fr w.heap.size (st l.length)) (b:=w.heap.size+1) (e:=27) (cs:=zU) (cs':=(st l.length).cs) (new:=vs) (by simp[fr]) hi.r1 (by rw[b2];rfl)
   have a2:=a1.trans (Ev.write (b:=w.heap.size+1+1) (e:=39) (cs:=[.int .i64 0]) (cs':=[.int .i64 0]) (new:=#[.int .i64 0]) (by simp[Store.set,fr]) hr2 rfl)
   refine a2.trans (Ev.of_sub (λq hq=>?_) _)
   have n1:¬w.heap.size=w.heap.size+1+1:=by omega
   simp[Store.set,fr,n1]at hq ⊢
   exact .inr hq
  generalize (W.setRow (w.heap.size+1) vs).setRow (w.heap.size+1+1) #[.int .i64 0]=W5 at*
  have hst5:=rf.put (.deferred none) hd rfl
  have hR:=RepL.keep hst5.1 hst5.2 _ _ (RepL.ev ev _ _ b4)
  have ev2:Ev [] w [(w.heap.size+1,.cells 27 (st l.length).cs),(w.heap.size+2,.cells 39 [.int .i64 0])] (W5.putObj D (.deferred none)):=(hi.ev.trans ev).stays hst5 rfl rfl rfl (by simp) (λb hb=>World.putObj_heap_other (by omega))
  have ev3:=ev2.trans (Ev.of_sub (σ':=[]) (λq hq=>by simp at hq) _)
  have hR3:=RepL.ev (Ev.of_sub (σ':=[]) (σ:=[(w.heap.size+1,.cells 27 (st l.length).cs),(w.heap.size+2,.cells 39 [.int .i64 0])]) (λq hq=>by simp at hq) (W5.putObj D (.deferred none))) _ _ hR
  refine⟨by simp,.inl ⟨D,_,rfl,run_takeDeferred hd,?_⟩⟩
  have hv1:(loadVar 39 ⟨w.heap.size+1+1,0,none⟩).run Tryz.prog (W5.putObj D (.deferred none))= .ok (.int .i64 0) (W5.putObj D (.deferred none)):=
   iN (n:=1) Tryz.underlying39 (by kernel_rfl) rfl ⟨w.heap.size+1+1,0,none⟩ [.int .i64 0] rfl _ (λj v hv=>by
    match j,hv with
    |0,hv=>
     simp at hv
     subst hv
     rw[add_lit,cell_of_row _ _ _ #[.int .i64 0] 39 (0,0) ((World.putObj_heap_other (by omega)).trans hr2')]
     rfl)
  have hv0:=rc (P:=Tryz.prog) (t:=27) (m:=8) (w:=W5.putObj D (.deferred none)) (b:=w.heap.size+1) Tryz.underlying27 (by kernel_rfl) rfl ((World.putObj_heap_other (by omega)).trans hr1') b2
  refine⟨_,rX (p:=4) (q:=5) rfl rfl rfl hv0 hv1,_,_,[],rfl,⟨rfl,rfl⟩,?_,ev3,?_⟩
  ·exact Sat.step (σ:=[]) (by simpa using hS) ev3 (by simp[Store.keys]) (by simp[Store.keys]) (by simp)
  ·unfold aO
   simp only[nil_append,Rep,RepL]
   exact⟨_,rfl,_,_,rfl,⟨vs,rfl,b3,by simpa using hR3⟩,_,_,rfl,rfl,rfl⟩
end
end
end Go.Av
