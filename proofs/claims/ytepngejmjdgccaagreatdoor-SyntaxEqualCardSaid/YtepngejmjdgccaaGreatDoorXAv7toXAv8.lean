/-
  ABSTRACT VALUES, 7: an operation that leaves memory as it is does in the model what it does in the small language.
-/
import Derived.Test.YtepngejmjdgccaaGreatDoorXAv5toXAv6
namespace Go.Av
open Go Go.RowKit
set_option linter.unusedSimpArgs false
set_option linter.unusedVariables false
def Same (w w':World):Prop:=w.heap.size<=w'.heap.size/\∀b,b<w.heap.size->w'.heap[b]? =w.heap[b]?
theorem Same.refl (w:World):Same w w:=⟨Nat.le_refl _,λ_ _=>rfl⟩
theorem Same.cell {w w':World} (h:Same w w') {a:Addr} {v:Value} (hc:w.cell? a=some v):w'.cell? a=some v:=by
 rw[World.cell?_of_block (w:=w) (h.2 a.block (lt_of_cell hc))];exact hc
theorem Store.get_mem:∀{σ:Store} {b:Nat} {x:AObj},σ.get b=some x->(b,x)∈σ
 |[],b,x,h=>by simp[Store.get]at h
 |(k,y)::s,b,x,h=>by
  simp only[Store.get]at h
  by_cases hk:k=b
  ·subst hk;rw[if_pos rfl]at h;cases h;simp
  ·rw[if_neg hk]at h;exact List.mem_cons_of_mem _ (Store.get_mem h)
section
variable {G:Glob} {P:Program} {τ:Store} {w:World} {env:Env} {a:Act}
theorem eval_rep (hS:Sat G τ w) (hE:∀j,Rep τ w (env.get j) (a.tmps.getD j undef)) (x:Operand):Rep τ w ((SOpd.of x).eval G env) (a.eval x):=by
 cases x with
 |tmp i=>exact hE i
 |const v=>exact Rep.ofValue τ w v
 |func f=>simp only[SOpd.of,SOpd.eval,Rep];rfl
 |global g=>
  simp only[SOpd.of,SOpd.eval]
  split
  ·rename_i cs h
   simp only[Rep]
   exact⟨⟨g,0,none⟩,rfl,G.tabs hS.glob h⟩
  ·simp only[Rep];rfl
theorem evalL_rep (hS:Sat G τ w) (hE:∀j,Rep τ w (env.get j) (a.tmps.getD j undef)):∀xs:List Operand,RepL τ w ((xs.map SOpd.of).map (·.eval G env)) (xs.map a.eval)
 |[]=>by simp[RepL]
 |x::xs=>by
  simp only[List.map_cons,RepL]
  exact⟨_,_,rfl,eval_rep hS hE x,evalL_rep hS hE xs⟩
theorem load_row {ad:Addr} {cs:List AV} (h:RepAt τ w ad 0 cs) (n:Nat) (hn:n<=cs.length):
  ∃vs:List Value,vs.length=n/\RepL τ w (cs.take n) vs/\(∀v∈vs,v.oneCell'=true)/\(∀j v,vs[j]? =some v->w.cell? (ad.add j)=some v):=by
 induction n with
 |zero=>exact⟨[],rfl,by simp[RepL],by simp,by simp⟩
 |succ n ih=>
  obtain⟨vs,h1,h2,h3,h4⟩:=ih (by omega)
  obtain⟨u,⟨hu,_⟩,ho,hr⟩:=h.get n (by omega)
  rw[Nat.zero_add]at hu
  refine⟨vs++[u],by simp[h1],?_,?_,?_⟩
  ·rw[List.take_succ_eq_append_getElem (by omega)]
   exact RepL.append h2 (by simp only[RepL];exact⟨u,[],rfl,hr,rfl⟩)
  ·intro v hv
   rcases List.mem_append.1 hv with hv|hv
   ·exact h3 v hv
   ·simp at hv;subst hv;exact ho
  ·intro j v hv
   rw[List.getElem?_append]at hv
   split at hv
   ·exact h4 j v hv
   ·rename_i hj
    have:j-vs.length=0:=by
     rcases Nat.eq_zero_or_pos (j-vs.length)with e|e
     ·exact e
     ·simp[show j-vs.length≠0 by omega]at hv
    have hj2:j=n:=by omega
    subst hj2
    simp[this]at hv
    subst hv
    exact hu
def isLoad:Op->Bool
 | .load _ _=>true
 |_=>false
def QOk (P:Program) (τ:Store) (w:World) (o:Oper) (a:Act) (K:AV->Prop):Prop:=
 ∃r u,K r/\Rep τ w r u/\∀w',(isLoad o.op=true->Same w w')->(execOp a.eval o).run P w'= .ok (.value u) w'
variable {o:Oper} {K:AV->Prop}
theorem q_mov {x:Operand} (ho:o.op= .move x\/o.op= .assign x) (hS:Sat G τ w) (hE:∀j,Rep τ w (env.get j) (a.tmps.getD j undef)) (h:K ((SOpd.of x).eval G env)):QOk P τ w o a K:=
 ⟨_,a.eval x,h,eval_rep hS hE x,λw' _=>by rcases ho with ho|ho<;>simp[execOp,ho]⟩
theorem q_pick {c x y:Operand} (ho:o.op= .pick c x y) (hS:Sat G τ w) (hE:∀j,Rep τ w (env.get j) (a.tmps.getD j undef))
  (h:pickAV ((SOpd.of c).eval G env) ((SOpd.of x).eval G env) ((SOpd.of y).eval G env) K):QOk P τ w o a K:=by
 have hc:=eval_rep (G:=G) hS hE c
 unfold pickAV at h
 split at h
 ·rename_i t ht
  rw[ht]at hc
  simp only[Rep]at hc
  cases t with
  |true=>exact⟨_,a.eval x,h.1 rfl,eval_rep hS hE x,λw' _=>by simp[execOp,ho,hc,asBool]⟩
  |false=>exact⟨_,a.eval y,h.2 rfl,eval_rep hS hE y,λw' _=>by simp[execOp,ho,hc,asBool]⟩
 ·exact h.elim
theorem q_nilCheck {x:Operand} (ho:o.op= .nilCheck x) (hS:Sat G τ w) (hE:∀j,Rep τ w (env.get j) (a.tmps.getD j undef))
  (h:nilAV ((SOpd.of x).eval G env) K):QOk P τ w o a K:=by
 have hx:=eval_rep (G:=G) hS hE x
 unfold nilAV at h
 split at h
 ·rename_i cs he
  rw[he]at hx
  refine⟨_,a.eval x,h,hx,λw' _=>?_⟩
  simp only[Rep]at hx
  obtain⟨ad,hu,_⟩:=hx
  simp[execOp,ho,hu]
 ·rename_i ad he
  rw[he]at hx
  refine⟨_,a.eval x,h,hx,λw' _=>?_⟩
  simp only[Rep]at hx
  simp[execOp,ho,hx]
 ·rename_i k fs cs he
  rw[he]at hx
  refine⟨_,a.eval x,h,hx,λw' _=>?_⟩
  simp only[Rep]at hx
  simp[execOp,ho,hx]
 ·exact h.elim
theorem run_isAgg {d:TypeDesc} {t:TypeId} (hu:P.underlying t=some d) (w':World):(isAgg t).run P w'= .ok (aggD d) w':=by
 unfold isAgg
 rw[Sem.run_bind,run_underlying hu w']
 cases d<;>simp[aggD]
theorem run_sizeOf' {n:Nat} {t:TypeId} (hn:sizeT P t=some n) (w':World):(sizeOf t).run P w'= .ok n w':=by
 unfold sizeT at hn
 cases hq:P.info? t with
 |none=>simp[hq]at hn
 |some i=>simp[hq]at hn;simp[sizeOf,typeInfo,hq,hn]
theorem run_loadVar' {d:TypeDesc} {t:TypeId} {n:Nat} (hu:P.underlying t=some d) (hn:sizeT P t=some n) (h1:(aggD d||n==1)=true) (ad:Addr) (vs:List Value) (hl:vs.length=n) (w':World)
  (hv:∀j v,vs[j]? =some v->w'.cell? (ad.add j)=some v):(loadVar t ad).run P w'= .ok (if aggD d then .agg vs.toArray else vs.headD undef) w':=by
 subst hl
 unfold loadVar
 rw[Sem.run_bind,run_isAgg hu]
 cases hd:aggD d with
 |true=>simp[run_sizeOf' hn,run_loadCells_list (P:=P) w' ad vs hv]
 |false=>
  simp[hd]at h1
  obtain⟨v,rfl⟩:∃v,vs=[v]:=by
   match vs,h1 with
   |[v],_=>exact⟨v,rfl⟩
  have:=hv 0 v rfl
  have e:ad.add 0=ad:=by simp[Addr.add]
  rw[e]at this
  simp[this]
theorem loadX_ok {t:TypeId} {d:TypeDesc} {n:Nat} (hu:P.underlying t=some d) (hn:sizeT P t=some n) (h1:(aggD d||n==1)=true)
  {σ ρ:Store} (hτ:τ=σ++ρ) (hS:Sat G τ w) {X:AV} {q:Value} (hx:Rep τ w X q) (h:loadX σ (aggD d) n X K):
  ∃ad r v,q= .pointer (some ad)/\K r/\Rep τ w r v/\∀w',Same w w'->(loadVar t ad).run P w'= .ok v w':=by
 have fin:∀(ad:Addr) (cs:List AV) (vs:List Value),q= .pointer (some ad)->vs.length=n->RepL τ w (cs.take n) vs->(∀v∈vs,v.oneCell'=true)->
   (∀w',Same w w'->∀j v,vs[j]? =some v->w'.cell? (ad.add j)=some v)->loadAV (aggD d) n cs K->∃ad r v,q= .pointer (some ad)/\K r/\Rep τ w r v/\∀w',Same w w'->(loadVar t ad).run P w'= .ok v w':=by
  intro ad cs vs hp hl hr ho1 hc hk
  refine⟨ad,_,if aggD d then .agg vs.toArray else vs.headD undef,hp,hk.2,?_,λw' hs=>?_⟩
  ·cases hd:aggD d with
   |true=>simp only[if_true,Rep];exact⟨vs.toArray,rfl,by simpa using ho1,by simpa using hr⟩
   |false=>
    simp[hd]at h1
    subst h1
    match vs,hl with
    |[v],_=>
     match cs,hk.1 with
     |c::cs,_=>
      simp only[List.take_succ_cons,List.take_zero,RepL]at hr
      obtain⟨u,us,e,h2,_⟩:=hr
      simp only[List.cons.injEq]at e
      simp only[Bool.false_eq_true,if_false,List.headD_cons]
      rw[e.1];exact h2
  ·exact run_loadVar' hu hn h1 ad vs hl w' (hc w' hs)
 unfold loadX at h
 split at h
 ·rename_i cs
  simp only[Rep]at hx
  obtain⟨ad,hp,hr⟩:=hx
  obtain⟨vs,l1,l2,l3,l4⟩:=load_row hr n h.1
  exact fin ad cs vs hp l1 l2 l3 (λw' hs j v hv=>hs.cell (l4 j v hv)) h
 ·rename_i b off
  simp only[Rep]at hx
  unfold withRow at h
  split at h
  ·rename_i e cs hg
   have hm:(b,AObj.cells e cs)∈τ:=by rw[hτ];exact List.mem_append.2 (.inl (Store.get_mem hg))
   obtain⟨vs,hh,ho1,hr⟩:=hS.obj b _ hm
   have hlen:=hr.length
   have hle:n<=(cs.drop off).length:=h.1
   refine fin ⟨b,off,none⟩ (cs.drop off) ((vs.toList.drop off).take n) hx ?_ (RepL.take n (RepL.drop off hr)) ?_ ?_ h
   ·simp at hle hlen ⊢;omega
   ·intro v hv
    exact ho1 v (List.mem_of_mem_drop (List.mem_of_mem_take hv))
   ·intro w' hs j v hv
    rw[add_lit]
    have hb:w'.heap[b]? =some (.cells vs e (0,0)):=by rw[hs.2 b (Array.getElem?_eq_some_iff.1 hh).1];exact hh
    rw[cell_of_row w' b (off+j) vs e (0,0) hb]
    rw[List.getElem?_take]at hv
    split at hv
    ·simpa using hv
    ·cases hv
  ·exact h.elim
 ·exact h.elim
theorem q_load {t:TypeId} {x:Operand} {d:TypeDesc} {n:Nat} (ho:o.op= .load t x) (hu:P.underlying t=some d) (hn:sizeT P t=some n) (h1:(aggD d||n==1)=true)
  {σ ρ:Store} (hτ:τ=σ++ρ) (hS:Sat G τ w) (hE:∀j,Rep τ w (env.get j) (a.tmps.getD j undef)) (h:loadX σ (aggD d) n ((SOpd.of x).eval G env) K):QOk P τ w o a K:=by
 obtain⟨ad,r,v,hp,hk,hr,hrun⟩:=loadX_ok hu hn h1 hτ hS (eval_rep (G:=G) hS hE x) h
 exact⟨r,v,hk,hr,λw' hs=>by simp[execOp,ho,Instr.loadAt,hp,Instr.sureAddr,hrun w' (hs (by rw[ho];rfl))]⟩
end
theorem splice_eq:∀(l:List AV) (o:Nat) (c:List AV),o+c.length<=l.length->splice l o c=l.take o++c++l.drop (o+c.length)
 |l,0,c,_=>by cases l<;>simp[splice]
 |[],o+1,c,h=>by simp at h
 |x::l,o+1,c,h=>by
  have:=splice_eq l o c (by simp at h;omega)
  simp only[splice,this,List.take_succ_cons,List.cons_append]
  rw[show o+1+c.length=(o+c.length)+1 by omega,List.drop_succ_cons]
theorem fold_set (o:Nat):∀(vs:List Value) (i:Nat) (C:Array Value),o+i+vs.length<=C.size->
  ((vs.zipIdx i).foldl (λcs (x:Value×Nat)=>cs.setIfInBounds (o+x.2) x.1) C).toList=C.toList.take (o+i)++vs++C.toList.drop (o+i+vs.length)
 |[],i,C,_=>by simp
 |v::vs,i,C,h=>by
  simp only[List.zipIdx_cons,List.foldl_cons]
  rw[fold_set o vs (i+1) (C.setIfInBounds (o+i) v) (by simp at h ⊢;omega)]
  have hi:o+i<C.toList.length:=by simp at h ⊢;omega
  simp only[Array.toList_setIfInBounds,List.length_cons]
  rw[←Nat.add_assoc,show o+i+1+vs.length=o+i+(vs.length+1)by omega]
  rw[List.drop_set_of_lt (by omega),List.take_add_one,List.getElem?_set_self hi,List.take_set_of_le (Nat.le_refl _)]
  simp
section
variable {G:Glob} {P:Program} {τ:Store} {w:World} {env:Env} {a:Act} {o:Oper} {K:AV->Prop}
theorem cells_rep {x:AV} {v:Value} {c:List AV} (hc:AV.cells? x=some c) (h:Rep τ w x v):RepL τ w c v.cells.toList/\∀u∈v.cells.toList,u.oneCell'=true:=by
 have single:∀y:AV,Rep τ w y v->v.oneCell'=true->v.cells=#[v]->RepL τ w [y] v.cells.toList/\∀u∈v.cells.toList,u.oneCell'=true:=by
  intro y hy h1 h2
  rw[h2]
  exact⟨by simp only[RepL];exact⟨v,[],rfl,hy,rfl⟩,by simpa using h1⟩
 cases x with
 |any=>simp[AV.cells?]at hc
 |tup cs=>simp[AV.cells?]at hc
 |agg cs=>
  simp[AV.cells?]at hc
  subst hc
  simp only[Rep]at h
  obtain⟨vs,rfl,h1,h2⟩:=h
  exact⟨by simpa[Value.cells]using h2,by simpa[Value.cells]using h1⟩
 |sc u=>
  simp only[AV.cells?]at hc
  split at hc
  ·rename_i h1
   cases hc
   have h':=h
   simp only[Rep]at h'
   subst h'
   refine single _ h h1 ?_
   cases v<;>first|rfl|exact absurd h1 (by simp[Value.oneCell'])
  ·cases hc
 |bool b=>
  simp[AV.cells?]at hc;subst hc
  have h':=h;simp only[Rep]at h';subst h'
  exact single _ h rfl rfl
 |int k n=>
  simp[AV.cells?]at hc;subst hc
  have h':=h;simp only[Rep]at h';subst h'
  exact single _ h rfl rfl
 |str s=>
  simp[AV.cells?]at hc;subst hc
  have h':=h;simp only[Rep]at h';subst h'
  exact single _ h rfl rfl
 |nil=>
  simp[AV.cells?]at hc;subst hc
  have h':=h;simp only[Rep]at h';subst h'
  exact single _ h rfl rfl
 |lst sz rows=>
  simp[AV.cells?]at hc;subst hc
  have h':=h;simp only[Rep]at h'
  rcases h' with⟨h',_⟩|⟨ad,cap,h',_⟩<;>subst h'<;>exact single _ h rfl rfl
 |own b e sz rows=>
  simp[AV.cells?]at hc;subst hc
  have h':=h
  cases b with
  |none=>simp only[Rep]at h';obtain⟨h',_⟩:=h';subst h';exact single _ h rfl rfl
  |some b=>simp only[Rep]at h';obtain⟨cap,h',_⟩:=h';subst h';exact single _ h rfl rfl
 |ref cs=>
  simp[AV.cells?]at hc;subst hc
  have h':=h;simp only[Rep]at h'
  obtain⟨ad,h',_⟩:=h'
  subst h'
  exact single _ h rfl rfl
theorem splice_rep {cs c:List AV} {C:Array Value} {v:Value} {off n:Nat} (hC:RepL τ w cs C.toList) (hc:RepL τ w c v.cells.toList) (hn:c.length=n) (hle:off+n<=cs.length):
  RepL τ w (splice cs off c) (v.cells.zipIdx.foldl (λcs (x:Value×Nat)=>cs.setIfInBounds (off+x.2) x.1) C).toList:=by
 have l1:=hC.length
 have l2:=hc.length
 subst hn
 have e:=fold_set off v.cells.toList 0 C (by simp at l1 l2 ⊢;omega)
 rw[←Array.foldl_toList,Array.toList_zipIdx]
 rw[e,splice_eq cs off c hle]
 simp only[Nat.add_zero]
 rw[l2]
 exact RepL.append (RepL.append (RepL.take _ hC) hc) (RepL.drop _ hC)
theorem fill_rep (place:Nat->Option (Nat×Nat)):∀(parts:List (Nat×Operand)) (sparts:List (Nat×Nat×SOpd)) (cs:List AV) (C:Array Value) (KL:List AV->Prop),
  (∀(j:Nat) p q,parts[j]? =some p->sparts[j]? =some q->place p.1=some (q.1,q.2.1)/\q.2.2=SOpd.of p.2)->parts.length=sparts.length->
  Sat G τ w->(∀j,Rep τ w (env.get j) (a.tmps.getD j undef))->RepL τ w cs C.toList->(∀v∈C.toList,v.oneCell'=true)->fillAV G env cs sparts KL->
  ∃C' cs',Instr.fill place C (parts.map λp=>(p.1,a.eval p.2))=some C'/\KL cs'/\RepL τ w cs' C'.toList/\∀v∈C'.toList,v.oneCell'=true
 |[],[],cs,C,KL,_,_,_,_,hC,h1,h=>⟨C,cs,rfl,h,hC,h1⟩
 |p::parts,q::sparts,cs,C,KL,hp,hl,hS,hE,hC,h1,h=>by
  obtain⟨off,n,x⟩:=q
  obtain⟨hpl,hx⟩:=hp 0 p _ rfl rfl
  simp only at hpl hx
  subst hx
  simp only[fillAV,withCells]at h
  split at h
  ·rename_i c hc
   obtain⟨hn,hle,h⟩:=h
   obtain⟨r1,r2⟩:=cells_rep hc (eval_rep hS hE p.2)
   have l1:=hC.length
   have l2:=r1.length
   have hs1:(a.eval p.2).cells.size=n:=by simp at l2;omega
   have hs2:off+(a.eval p.2).cells.size<=C.size:=by simp at l1;omega
   have hspl:=splice_rep (w:=w) hC r1 hn hle
   obtain⟨C',cs',k1,k2,k3,k4⟩:=fill_rep place parts sparts (splice cs off c) _ KL (λj p q h1 h2=>hp (j+1) p q h1 h2) (by simpa using hl) hS hE hspl (by
    rw[←Array.foldl_toList,Array.toList_zipIdx,fold_set off _ 0 C (by simp;omega)]
    intro v hv
    simp only[List.mem_append]at hv
    rcases hv with(hv|hv)|hv
    ·exact h1 v (List.mem_of_mem_take hv)
    ·exact r2 v hv
    ·exact h1 v (List.mem_of_mem_drop hv)) h
   refine⟨C',cs',?_,k2,k3,k4⟩
   simp only[List.map_cons,Instr.fill,hpl]
   rw[if_neg (by simp[hs1];omega)]
   exact k1
  ·exact h.elim
 |[],_::_,_,_,_,_,hl,_,_,_,_,_=>by simp at hl
 |_::_,[],_,_,_,_,hl,_,_,_,_,_=>by simp at hl
end
end Go.Av
