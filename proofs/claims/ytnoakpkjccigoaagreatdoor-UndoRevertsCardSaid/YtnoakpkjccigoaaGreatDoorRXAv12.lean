/-
  ABSTRACT VALUES, 12: operations that make or write memory.
-/
import Derived.Test.YtnoakpkjccigoaaGreatDoorRXAv10toXAv11
import Derived.Deep.AppendSrc
namespace Go.Av
open Go Go.RowKit List
set_option linter.unusedSimpArgs false
set_option linter.unusedVariables false
theorem ObjSat.keep {σ σ' ρ:Store} {w w':World} (J:Ev σ w σ' w') {b:Nat} {x:AObj} (I:w'.heap[b]? =w.heap[b]?) (h:ObjSat (σ++ρ) w b x):ObjSat (σ'++ρ) w' b x:=by
 cases x with
 |cells e cs=>
  obtain⟨vs,D,E,F⟩:=h
  exact⟨vs,I.trans D,E,RepL.ev J _ _ F⟩
 |tok e k=>
  obtain⟨vs,D,E⟩:=h
  exact⟨vs,I.trans D,E⟩
 |map es=>
  obtain⟨ents,c,D,E,F⟩:=h
  exact⟨ents,c,I.trans D,E,RepL.ev J _ _ F⟩
theorem Sat.lt_left {G:Glob} {σ ρ:Store} {w:World} (h:Sat G (σ++ρ) w) {b:Nat} (D:b∈σ.keys):b<w.heap.size:=
 h.key_lt (by rw[az];exact mem_append.2 (.inl D))
theorem Sat.nodup_left {G:Glob} {σ ρ:Store} {w:World} (h:Sat G (σ++ρ) w):σ.keys.Nodup:=by
 have:=h.nodup
 rw[az]at this
 exact(nodup_append.1 this).1
theorem Sat.alloc {G:Glob} {σ ρ:Store} {w:World} (h:Sat G (σ++ρ) w) (o:Obj) (x:AObj)
  (J:ObjSat (((w.heap.size,x)::σ)++ρ) (w.alloc o) w.heap.size x):Sat G (((w.heap.size,x)::σ)++ρ) (w.alloc o):=by
 refine h.step (Ev.alloc o x) ?_ ?_ ?_
 ·simp only[Store.keys,map_cons,nodup_cons]
  exact⟨λI=>Nat.lt_irrefl _ (h.lt_left I),h.nodup_left⟩
 ·intro b D
  simp only[Store.keys,map_cons,mem_cons]at D
  rcases D with rfl|D
  ·exact .inr (Nat.le_refl _)
  ·exact .inl D
 ·intro b y E
  rcases mem_cons.1 E with e|E
  ·cases e;exact J
  ·have F:=h.obj b y (mem_append.2 (.inl E))
   exact F.keep (Ev.alloc o x) (Below.heap_alloc w o b F.lt)
theorem ar.flat {τ:Store} {w:World} {a:Addr} {sz:Nat}:∀{i:Nat} {rows:List (List AV)},ar τ w a sz i rows->RepAt τ w a (i*sz) rows.flatten/\rows.flatten.length=rows.length*sz/\∀r∈rows,r.length=sz
 |i,[],_=>by simp[RepAt]
 |i,r::rs,h=>by
  simp only[ar]at h
  obtain⟨E,M,N⟩:=h
  obtain⟨k1,O,T⟩:=ar.flat N
  refine⟨RepAt.of_get λj J=>?_,?_,?_⟩
  ·simp only[flatten_cons]at J ⊢
   by_cases D:j<r.length
   ·rw[getElem_append_left D];exact M.get j D
   ·have F:j-r.length<rs.flatten.length:=by rw[length_append]at J;omega
    rw[getElem_append_right (by omega)]
    have:=k1.get (j-r.length) F
    rw[show(i+1)*sz+(j-r.length)=i*sz+j by rw[Nat.add_mul,E];omega]at this
    exact this
  ·simp[E,O,Nat.add_mul,Nat.add_comm]
  ·intro q I
   rcases mem_cons.1 I with rfl|I
   ·exact E
   ·exact T q I
theorem ar.of_flat {τ:Store} {w:World} {a:Addr} {sz:Nat}:∀{i:Nat} {rows:List (List AV)},(∀r∈rows,r.length=sz)->RepAt τ w a (i*sz) rows.flatten->ar τ w a sz i rows
 |i,[],_,_=>by simp only[ar]
 |i,r::rs,hl,h=>by
  simp only[ar]
  have D:=hl r (by simp)
  simp only[flatten_cons]at h
  refine⟨D,?_,ar.of_flat (λq E=>hl q (mem_cons_of_mem _ E)) ?_⟩
  ·have:=h.take r.length
   simpa using this
  ·refine RepAt.of_get λj F=>?_
   have:=h.get (r.length+j) (by rw[length_append];omega)
   rw[getElem_append_right (by omega)]at this
   simp only[Nat.add_sub_cancel_left]at this
   rw[show(i+1)*sz+j=i*sz+(r.length+j)by rw[Nat.add_mul,D];omega]
   exact this
section
variable {G:Glob} {P:Program} {σ ρ:Store} {w:World} {env:Env} {a:Act} {o:Oper}
def Goes (G:Glob) (σ ρ:Store) (w:World) (a:Act) (o:Oper) (K:AV->Store->Prop) (next:Act->World->Prop):Prop:=
 ∀v r σ' w',K r σ'->Sat G (σ'++ρ) w'->Ev σ w σ' w'->Rep (σ'++ρ) w' r v->next (a.put o.dst v) w'
variable {K:AV->Store->Prop} {next:Act->World->Prop} {Q:Exit->Act->World->Prop}
theorem bF {v:Value} {w':World} (D:(execOp a.eval o).run P w= .ok (.value v) w') (h:next (a.put o.dst v) w'):o.wp P a w next Q:=by
 unfold Oper.wp
 rw[D]
 exact h
theorem eB {w':World} (D:(execOp a.eval o).run P w= .ok .skip w') (h:next (a.put o.dst undef) w'):o.wp P a w next Q:=by
 unfold Oper.wp
 rw[D]
 exact h
theorem e_quiet {op:Op} {F:SOp} (N:o.op=op) (T:bQ P op=some F) (E:Sat G (σ++ρ) w) (I:∀j,Rep (σ++ρ) w (env.get j) (a.tmps.getD j undef)) (h:aq G F env σ λr=>K r σ)
  (M:Goes G σ ρ w a o K next):o.wp P a w next Q:=by
 obtain⟨r,u,J,O,D⟩:=dg N T rfl E I h
 exact bF (D w (λ_=>Same.refl w)) (M u r σ w J E (Ev.refl σ w) O)
theorem fk (D:Sat G (σ++ρ) w):w.heap.size∉σ.keys:=λh=>Nat.lt_irrefl _ (D.lt_left h)
theorem e_alloc {e:TypeId} {z:List AV} (V:o.op= .alloc e) (N:cK P e=some z) (J:Sat G (σ++ρ) w)
  (h:newX σ λb=>K (.sc (.pointer (some ⟨b,0,none⟩))) ((b,.cells e z)::σ)) (T:Goes G σ ρ w a o K next):o.wp P a w next Q:=by
 obtain⟨i,v,hi,M,_,O⟩:=cG (τ:=σ++ρ) (w:=w) N
 have E:(execOp a.eval o).run P w= .ok (.value (.pointer (some ⟨w.heap.size,0,none⟩))) (w.alloc (.cells v.cells e)):=by
  simp[execOp,V,Instr.alloc,zeroValue,typeInfo,hi,M,newVar,newRow]
 refine bF E (T _ _ _ _ (h _ (fk J)) (J.alloc _ _ ?_) (Ev.alloc _ _) (by simp only[Rep]))
 obtain⟨X,Y,D,F,I,_⟩:=cG (τ:=((w.heap.size,.cells e z)::σ)++ρ) (w:=w.alloc (.cells v.cells e)) N
 rw[hi]at D;cases D
 rw[M]at F;cases F
 exact⟨v.cells,heap_alloc_new w _,O,I⟩
theorem mR {e:TypeId} {n:Nat} {x:Operand} (ho:o.op= .box e x) (F:Sat G (σ++ρ) w) (X:∀j,Rep (σ++ρ) w (env.get j) (a.tmps.getD j undef))
  (h:bU ((SOpd.of x).eval G env) λc=>c.length=n/\K (.ref c) σ) (hn:Goes G σ ρ w a o K next):o.wp P a w next Q:=by
 unfold bU at h
 split at h
 ·rename_i c Z
  obtain⟨r1,r2⟩:=gA Z (ao F X x)
  have N:(execOp a.eval o).run P w= .ok (.value (.pointer (some ⟨w.heap.size,0,none⟩))) (w.alloc (.cells (a.eval x).cells e)):=by
   simp[execOp,ho,Instr.box,newVar,newRow]
  have D:Ev σ w σ (w.alloc (.cells (a.eval x).cells e)):=Ev.alloc0 _
  have J:∀b y,(b,y)∈σ++ρ->b<w.heap.size:=λb y E=>(F.obj b y E).lt
  have O:Sat G (σ++ρ) (w.alloc (.cells (a.eval x).cells e)):=
   F.step D F.nodup_left (λb Y=>.inl Y) (λb y E=>(F.obj b y (mem_append.2 (.inl E))).keep D (Below.heap_alloc _ _ b (J b y (mem_append.2 (.inl E)))))
  refine bF N (hn _ _ _ _ h.2 O D ?_)
  have T:=RepL.ev D _ _ r1
  have l1:=r1.length
  simp only[Rep]
  refine⟨_,rfl,RepAt.of_get λj V=>?_⟩
  have I:j<(a.eval x).cells.toList.length:=by rw[l1];exact V
  refine⟨(a.eval x).cells.toList[j],⟨?_,?_⟩,r2 _ (getElem_mem _),T.get j V I⟩
  ·have M:=heap_alloc_new w (.cells (a.eval x).cells e)
   rw[add_lit]
   simp only[World.cell?,M,Nat.zero_add]
   simp at I ⊢
  ·rintro⟨y,E,_⟩
   rw[add_block]at E
   exact Nat.lt_irrefl _ (J _ _ E)
 ·exact h.elim
theorem e_box {e:TypeId} {n:Nat} {x:Operand} (M:o.op= .box e x) (E:Sat G (σ++ρ) w) (F:∀j,Rep (σ++ρ) w (env.get j) (a.tmps.getD j undef))
  (h:bU ((SOpd.of x).eval G env) λc=>c.length=n/\newX σ λb=>K (.sc (.pointer (some ⟨b,0,none⟩))) ((b,.cells e c)::σ)) (J:Goes G σ ρ w a o K next):o.wp P a w next Q:=by
 unfold bU at h
 split at h
 ·rename_i c I
  obtain⟨r1,r2⟩:=gA I (ao E F x)
  have D:(execOp a.eval o).run P w= .ok (.value (.pointer (some ⟨w.heap.size,0,none⟩))) (w.alloc (.cells (a.eval x).cells e)):=by
   simp[execOp,M,Instr.box,newVar,newRow]
  refine bF D (J _ _ _ _ (h.2 _ (fk E)) (E.alloc _ _ ?_) (Ev.alloc _ _) (by simp only[Rep]))
  exact⟨_,heap_alloc_new w _,r2,RepL.ev (Ev.alloc _ _) _ _ r1⟩
 ·exact h.elim
theorem Ev.setRow {b:Nat} {e:TypeId} {cs cs':List AV} {vs new:Array Value} (N:(b,AObj.cells e cs)∈σ) (V:w.heap[b]? =some (.cells vs e (0,0))) (Z:new.size=vs.size):
  Ev σ w (σ.set b (.cells e cs')) (w.setRow b new):=by
 have E:∀{σ:Store} (k:Nat) (y:AObj),(k,y)∈σ.set b (.cells e cs')->(k,y)∈σ\/(k=b/\y= .cells e cs'):=by
  intro σ
  induction σ with
  |nil=>intro k y h;simp[Store.set]at h
  |cons p s ih=>
   intro k y h
   obtain⟨k0,x0⟩:=p
   simp only[Store.set]at h
   split at h
   ·rename_i F
    rcases mem_cons.1 h with h|h
    ·cases h;exact .inr ⟨F,rfl⟩
    ·exact .inl (mem_cons_of_mem _ h)
   ·rcases mem_cons.1 h with h|h
    ·cases h;exact .inl (by simp)
    ·rcases ih k y h with h|h
     ·exact .inl (mem_cons_of_mem _ h)
     ·exact .inr h
 have I:∀k,k∈(σ.set b (.cells e cs')).keys->k∈σ.keys:=by
  intro k F
  obtain⟨p,Y,rfl⟩:=mem_map.1 F
  rcases E p.1 p.2 Y with h|⟨h,_⟩
  ·exact mem_map.2 ⟨p,h,rfl⟩
  ·rw[h];exact mem_map.2 ⟨_,N,rfl⟩
 refine⟨rfl,rfl,rfl,by simp,λk F X=>⟨setRow_other w b k new (λe=>X (by rw[e];exact mem_map.2 ⟨_,N,rfl⟩)),λh=>X (I k h)⟩,?_,?_⟩
 ·intro k s D
  unfold World.shape? at*
  by_cases F:k=b
  ·subst F
   rw[setRow_heap w k vs new e (0,0) V]
   rw[V]at D
   simp at D ⊢
   rw[Z];exact D
  ·rw[setRow_other w b k new F];exact D
 ·intro T v hv J
  have M:T.block≠b:=λh=>J ⟨AObj.cells e cs,by rw[h];exact N,trivial⟩
  refine⟨by rw[World.cell?_of_block (w:=w) (setRow_other w b T.block new M)];exact hv,?_⟩
  rintro⟨y,hy,O⟩
  rcases E _ _ hy with h|⟨h,_⟩
  ·exact J ⟨y,h,O⟩
  ·exact M h
theorem dk (b:Nat) (y:AObj):∀σ:Store,(σ.set b y).keys=σ.keys
 |[]=>rfl
 |(k,x)::s=>by
  simp only[Store.set]
  split
  ·simp[Store.keys]
  ·have:=dk b y s
   simp only[Store.keys,map_cons]at*
   rw[this]
theorem jH {b k:Nat} {y z:AObj}:∀{σ:Store},(k,z)∈σ.set b y->σ.keys.Nodup->(k=b/\z=y)\/(k≠b/\(k,z)∈σ)
 |[],h,_=>by simp[Store.set]at h
 |(k0,x0)::s,h,hn=>by
  simp only[Store.keys,map_cons,nodup_cons]at hn
  simp only[Store.set]at h
  split at h
  ·rename_i D
   subst D
   rcases mem_cons.1 h with h|h
   ·cases h;exact .inl ⟨rfl,rfl⟩
   ·exact .inr ⟨λe=>hn.1 (mem_map.2 ⟨_,h,e⟩),mem_cons_of_mem _ h⟩
  ·rename_i D
   rcases mem_cons.1 h with h|h
   ·cases h;exact .inr ⟨D,by simp⟩
   ·rcases jH h hn.2 with h|⟨E,F⟩
    ·exact .inl h
    ·exact .inr ⟨E,mem_cons_of_mem _ F⟩
theorem e_store {t:TypeId} {n:Nat} {x y:Operand} (ho:o.op= .store t x y) (ac:bj P t=some n) (I:Sat G (σ++ρ) w) (hE:∀j,Rep (σ++ρ) w (env.get j) (a.tmps.getD j undef))
  (h:ptrX ((SOpd.of x).eval G env) λb off=>gJ (σ.get b) λe cs=>bU ((SOpd.of y).eval G env) λc=>
   c.length=n/\off+n<=cs.length/\K aC (σ.set b (.cells e (aH cs off c)))) (hn:Goes G σ ρ w a o K next):o.wp P a w next Q:=by
 have hx:=ao (G:=G) I hE x
 have hy:=ao (G:=G) I hE y
 unfold ptrX at h
 split at h
 ·rename_i b off he
  rw[he]at hx
  simp only[Rep]at hx
  unfold gJ at h
  split at h
  ·rename_i e cs hg
   have hm:=Store.get_mem hg
   obtain⟨vs,V,h1,hr⟩:=I.obj b _ (mem_append.2 (.inl hm))
   unfold bU at h
   split at h
   ·rename_i c hc
    obtain⟨T,ad,X⟩:=h
    obtain⟨r1,r2⟩:=gA hc hy
    have l1:=hr.length
    have O:=r1.length
    have N:=run_storeCells_at P b off e (a.eval y).cells.toList 0 vs w V (by simp at l1 O ⊢;omega) r2
    simp only[Nat.add_zero]at N
    let new:Array Value:=(vs.toList.take off++(a.eval y).cells.toList++vs.toList.drop (off+(a.eval y).cells.toList.length)).toArray
    have F:new.size=vs.size:=by simp[new]at l1 O ⊢;omega
    have M:(execOp a.eval o).run P w= .ok .skip (w.setRow b new):=by
     have Z:(storeVar t ⟨b,off,none⟩ (a.eval y)).run P w= .ok () (w.setRow b new):=by
      unfold storeVar
      have:(a.eval y).cells.size=n:=by simp at O;omega
      simp[bv ac,this]
      simpa[new]using N
     simp[execOp,ho,Instr.storeAt,hx,Instr.sureAddr,Z]
    have D:Ev σ w (σ.set b (.cells e (aH cs off c))) (w.setRow b new):=Ev.setRow hm V F
    refine eB M (hn _ _ _ _ X ?_ D (by simp only[aC,Rep];exact⟨#[],rfl,by simp[RepL]⟩))
    have J:=I.nodup_left
    refine I.step D (by rw[dk];exact J) (λk X=>.inl (by rwa [dk]at X)) ?_
    intro k z hz
    rcases jH hz J with⟨rfl,rfl⟩|⟨Y,hz⟩
    ·refine⟨new,setRow_heap w k vs new e (0,0) V,?_,?_⟩
     ·intro v E
      simp only[new,mem_append]at E
      rcases E with(E|E)|E
      ·exact h1 v (mem_of_mem_take E)
      ·exact r2 v E
      ·exact h1 v (mem_of_mem_drop E)
     ·have q1:=RepL.ev D _ _ hr
      have q2:=RepL.ev D _ _ r1
      rw[←O]at T
      have e1:=aY cs off c (by omega)
      generalize (σ.set k (.cells e (aH cs off c))++ρ:Store)=τ' at*
      generalize w.setRow k new=w2 at*
      rw[e1]
      simp only[new]
      rw[O]
      exact RepL.append (RepL.append (RepL.take _ q1) q2) (RepL.drop _ q1)
    ·exact(I.obj k z (mem_append.2 (.inl hz))).keep D (setRow_other w b k new Y)
   ·exact h.elim
  ·exact h.elim
 ·exact h.elim
end
end Go.Av
