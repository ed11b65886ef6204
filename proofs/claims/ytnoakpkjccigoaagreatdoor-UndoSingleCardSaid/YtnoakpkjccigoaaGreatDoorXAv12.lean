/-
  ABSTRACT VALUES, 12: operations that make or write memory.
-/
import Derived.Test.YtnoakpkjccigoaaGreatDoorXAv10toXAv11
import Derived.Deep.AppendSrc
namespace Go.Av
open Go Go.RowKit List
set_option linter.unusedSimpArgs false
set_option linter.unusedVariables false
theorem ObjSat.keep {σ σ' ρ:Store} {w w':World} (he:Ev σ w σ' w') {b:Nat} {x:AObj} (hb:w'.heap[b]? =w.heap[b]?) (h:ObjSat (σ++ρ) w b x):ObjSat (σ'++ρ) w' b x:=by
 cases x with
 |cells e cs=>
  obtain⟨vs,h1,h2,h3⟩:=h
  exact⟨vs,hb.trans h1,h2,RepL.ev he _ _ h3⟩
 |tok e k=>
  obtain⟨vs,h1,h2⟩:=h
  exact⟨vs,hb.trans h1,h2⟩
 |map es=>
  obtain⟨ents,c,h1,h2,h3⟩:=h
  exact⟨ents,c,hb.trans h1,h2,RepL.ev he _ _ h3⟩
theorem Sat.lt_left {G:Glob} {σ ρ:Store} {w:World} (h:Sat G (σ++ρ) w) {b:Nat} (hb:b∈σ.keys):b<w.heap.size:=
 h.key_lt (by rw[az];exact mem_append.2 (.inl hb))
theorem Sat.nodup_left {G:Glob} {σ ρ:Store} {w:World} (h:Sat G (σ++ρ) w):σ.keys.Nodup:=by
 have:=h.nodup
 rw[az]at this
 exact(nodup_append.1 this).1
theorem Sat.alloc {G:Glob} {σ ρ:Store} {w:World} (h:Sat G (σ++ρ) w) (o:Obj) (x:AObj)
  (hx:ObjSat (((w.heap.size,x)::σ)++ρ) (w.alloc o) w.heap.size x):Sat G (((w.heap.size,x)::σ)++ρ) (w.alloc o):=by
 refine h.step (Ev.alloc o x) ?_ ?_ ?_
 ·simp only[Store.keys,map_cons,nodup_cons]
  exact⟨λhm=>Nat.lt_irrefl _ (h.lt_left hm),h.nodup_left⟩
 ·intro b hb
  simp only[Store.keys,map_cons,mem_cons]at hb
  rcases hb with rfl|hb
  ·exact .inr (Nat.le_refl _)
  ·exact .inl hb
 ·intro b y hy
  rcases mem_cons.1 hy with e|hy
  ·cases e;exact hx
  ·have ho:=h.obj b y (mem_append.2 (.inl hy))
   exact ho.keep (Ev.alloc o x) (Below.heap_alloc w o b ho.lt)
theorem ar.flat {τ:Store} {w:World} {a:Addr} {sz:Nat}:∀{i:Nat} {rows:List (List AV)},ar τ w a sz i rows->RepAt τ w a (i*sz) rows.flatten/\rows.flatten.length=rows.length*sz/\∀r∈rows,r.length=sz
 |i,[],_=>by simp[RepAt]
 |i,r::rs,h=>by
  simp only[ar]at h
  obtain⟨h1,h2,h3⟩:=h
  obtain⟨k1,k2,k3⟩:=ar.flat h3
  refine⟨RepAt.of_get λj hj=>?_,?_,?_⟩
  ·simp only[flatten_cons]at hj ⊢
   by_cases hlt:j<r.length
   ·rw[getElem_append_left hlt];exact h2.get j hlt
   ·have hj2:j-r.length<rs.flatten.length:=by rw[length_append]at hj;omega
    rw[getElem_append_right (by omega)]
    have:=k1.get (j-r.length) hj2
    rw[show(i+1)*sz+(j-r.length)=i*sz+j by rw[Nat.add_mul,h1];omega]at this
    exact this
  ·simp[h1,k2,Nat.add_mul,Nat.add_comm]
  ·intro q hq
   rcases mem_cons.1 hq with rfl|hq
   ·exact h1
   ·exact k3 q hq
theorem ar.of_flat {τ:Store} {w:World} {a:Addr} {sz:Nat}:∀{i:Nat} {rows:List (List AV)},(∀r∈rows,r.length=sz)->RepAt τ w a (i*sz) rows.flatten->ar τ w a sz i rows
 |i,[],_,_=>by simp only[ar]
 |i,r::rs,hl,h=>by
  simp only[ar]
  have h1:=hl r (by simp)
  simp only[flatten_cons]at h
  refine⟨h1,?_,ar.of_flat (λq hq=>hl q (mem_cons_of_mem _ hq)) ?_⟩
  ·have:=h.take r.length
   simpa using this
  ·refine RepAt.of_get λj hj=>?_
   have:=h.get (r.length+j) (by rw[length_append];omega)
   rw[getElem_append_right (by omega)]at this
   simp only[Nat.add_sub_cancel_left]at this
   rw[show(i+1)*sz+j=i*sz+(r.length+j)by rw[Nat.add_mul,h1];omega]
   exact this
section
variable {G:Glob} {P:Program} {σ ρ:Store} {w:World} {env:Env} {a:Act} {o:Oper}
def Goes (G:Glob) (σ ρ:Store) (w:World) (a:Act) (o:Oper) (K:AV->Store->Prop) (next:Act->World->Prop):Prop:=
 ∀v r σ' w',K r σ'->Sat G (σ'++ρ) w'->Ev σ w σ' w'->Rep (σ'++ρ) w' r v->next (a.put o.dst v) w'
variable {K:AV->Store->Prop} {next:Act->World->Prop} {Q:Exit->Act->World->Prop}
theorem bF {v:Value} {w':World} (hr:(execOp a.eval o).run P w= .ok (.value v) w') (h:next (a.put o.dst v) w'):o.wp P a w next Q:=by
 unfold Oper.wp
 rw[hr]
 exact h
theorem eB {w':World} (hr:(execOp a.eval o).run P w= .ok .skip w') (h:next (a.put o.dst undef) w'):o.wp P a w next Q:=by
 unfold Oper.wp
 rw[hr]
 exact h
theorem e_quiet {op:Op} {so:SOp} (ho:o.op=op) (ht:bQ P op=some so) (hS:Sat G (σ++ρ) w) (hE:∀j,Rep (σ++ρ) w (env.get j) (a.tmps.getD j undef)) (h:aq G so env σ λr=>K r σ)
  (hn:Goes G σ ρ w a o K next):o.wp P a w next Q:=by
 obtain⟨r,u,hk,hr,hrun⟩:=dg ho ht rfl hS hE h
 exact bF (hrun w (λ_=>Same.refl w)) (hn u r σ w hk hS (Ev.refl σ w) hr)
theorem fk (hS:Sat G (σ++ρ) w):w.heap.size∉σ.keys:=λh=>Nat.lt_irrefl _ (hS.lt_left h)
theorem e_alloc {e:TypeId} {z:List AV} (ho:o.op= .alloc e) (hz:cK P e=some z) (hS:Sat G (σ++ρ) w)
  (h:newX σ λb=>K (.sc (.pointer (some ⟨b,0,none⟩))) ((b,.cells e z)::σ)) (hn:Goes G σ ρ w a o K next):o.wp P a w next Q:=by
 obtain⟨i,v,hi,hv,_,h1⟩:=cG (τ:=σ++ρ) (w:=w) hz
 have hrun:(execOp a.eval o).run P w= .ok (.value (.pointer (some ⟨w.heap.size,0,none⟩))) (w.alloc (.cells v.cells e)):=by
  simp[execOp,ho,Instr.alloc,zeroValue,typeInfo,hi,hv,newVar,newRow]
 refine bF hrun (hn _ _ _ _ (h _ (fk hS)) (hS.alloc _ _ ?_) (Ev.alloc _ _) (by simp only[Rep]))
 obtain⟨i',v',hi',hv',hr',_⟩:=cG (τ:=((w.heap.size,.cells e z)::σ)++ρ) (w:=w.alloc (.cells v.cells e)) hz
 rw[hi]at hi';cases hi'
 rw[hv]at hv';cases hv'
 exact⟨v.cells,heap_alloc_new w _,h1,hr'⟩
theorem mR {e:TypeId} {n:Nat} {x:Operand} (ho:o.op= .box e x) (hS:Sat G (σ++ρ) w) (hE:∀j,Rep (σ++ρ) w (env.get j) (a.tmps.getD j undef))
  (h:bU ((SOpd.of x).eval G env) λc=>c.length=n/\K (.ref c) σ) (hn:Goes G σ ρ w a o K next):o.wp P a w next Q:=by
 unfold bU at h
 split at h
 ·rename_i c hc
  obtain⟨r1,r2⟩:=gA hc (ao hS hE x)
  have hrun:(execOp a.eval o).run P w= .ok (.value (.pointer (some ⟨w.heap.size,0,none⟩))) (w.alloc (.cells (a.eval x).cells e)):=by
   simp[execOp,ho,Instr.box,newVar,newRow]
  have hev:Ev σ w σ (w.alloc (.cells (a.eval x).cells e)):=Ev.alloc0 _
  have hlt:∀b y,(b,y)∈σ++ρ->b<w.heap.size:=λb y hy=>(hS.obj b y hy).lt
  have hS':Sat G (σ++ρ) (w.alloc (.cells (a.eval x).cells e)):=
   hS.step hev hS.nodup_left (λb hb=>.inl hb) (λb y hy=>(hS.obj b y (mem_append.2 (.inl hy))).keep hev (Below.heap_alloc _ _ b (hlt b y (mem_append.2 (.inl hy)))))
  refine bF hrun (hn _ _ _ _ h.2 hS' hev ?_)
  have r1':=RepL.ev hev _ _ r1
  have l1:=r1.length
  simp only[Rep]
  refine⟨_,rfl,RepAt.of_get λj hj=>?_⟩
  have hj':j<(a.eval x).cells.toList.length:=by rw[l1];exact hj
  refine⟨(a.eval x).cells.toList[j],⟨?_,?_⟩,r2 _ (getElem_mem _),r1'.get j hj hj'⟩
  ·have hnew:=heap_alloc_new w (.cells (a.eval x).cells e)
   rw[add_lit]
   simp only[World.cell?,hnew,Nat.zero_add]
   simp at hj' ⊢
  ·rintro⟨y,hy,_⟩
   rw[add_block]at hy
   exact Nat.lt_irrefl _ (hlt _ _ hy)
 ·exact h.elim
theorem e_box {e:TypeId} {n:Nat} {x:Operand} (ho:o.op= .box e x) (hS:Sat G (σ++ρ) w) (hE:∀j,Rep (σ++ρ) w (env.get j) (a.tmps.getD j undef))
  (h:bU ((SOpd.of x).eval G env) λc=>c.length=n/\newX σ λb=>K (.sc (.pointer (some ⟨b,0,none⟩))) ((b,.cells e c)::σ)) (hn:Goes G σ ρ w a o K next):o.wp P a w next Q:=by
 unfold bU at h
 split at h
 ·rename_i c hc
  obtain⟨r1,r2⟩:=gA hc (ao hS hE x)
  have hrun:(execOp a.eval o).run P w= .ok (.value (.pointer (some ⟨w.heap.size,0,none⟩))) (w.alloc (.cells (a.eval x).cells e)):=by
   simp[execOp,ho,Instr.box,newVar,newRow]
  refine bF hrun (hn _ _ _ _ (h.2 _ (fk hS)) (hS.alloc _ _ ?_) (Ev.alloc _ _) (by simp only[Rep]))
  exact⟨_,heap_alloc_new w _,r2,RepL.ev (Ev.alloc _ _) _ _ r1⟩
 ·exact h.elim
theorem Ev.setRow {b:Nat} {e:TypeId} {cs cs':List AV} {vs new:Array Value} (hm:(b,AObj.cells e cs)∈σ) (hh:w.heap[b]? =some (.cells vs e (0,0))) (hs:new.size=vs.size):
  Ev σ w (σ.set b (.cells e cs')) (w.setRow b new):=by
 have hsub:∀{σ:Store} (k:Nat) (y:AObj),(k,y)∈σ.set b (.cells e cs')->(k,y)∈σ\/(k=b/\y= .cells e cs'):=by
  intro σ
  induction σ with
  |nil=>intro k y h;simp[Store.set]at h
  |cons p s ih=>
   intro k y h
   obtain⟨k0,x0⟩:=p
   simp only[Store.set]at h
   split at h
   ·rename_i hk
    rcases mem_cons.1 h with h|h
    ·cases h;exact .inr ⟨hk,rfl⟩
    ·exact .inl (mem_cons_of_mem _ h)
   ·rcases mem_cons.1 h with h|h
    ·cases h;exact .inl (by simp)
    ·rcases ih k y h with h|h
     ·exact .inl (mem_cons_of_mem _ h)
     ·exact .inr h
 have hkey:∀k,k∈(σ.set b (.cells e cs')).keys->k∈σ.keys:=by
  intro k hk
  obtain⟨p,hp,rfl⟩:=mem_map.1 hk
  rcases hsub p.1 p.2 hp with h|⟨h,_⟩
  ·exact mem_map.2 ⟨p,h,rfl⟩
  ·rw[h];exact mem_map.2 ⟨_,hm,rfl⟩
 refine⟨rfl,rfl,rfl,by simp,λk hk hn=>⟨setRow_other w b k new (λe=>hn (by rw[e];exact mem_map.2 ⟨_,hm,rfl⟩)),λh=>hn (hkey k h)⟩,?_,?_⟩
 ·intro k s hs'
  unfold World.shape? at*
  by_cases hk:k=b
  ·subst hk
   rw[setRow_heap w k vs new e (0,0) hh]
   rw[hh]at hs'
   simp at hs' ⊢
   rw[hs];exact hs'
  ·rw[setRow_other w b k new hk];exact hs'
 ·intro ad v hv hmu
  have hne:ad.block≠b:=λh=>hmu ⟨AObj.cells e cs,by rw[h];exact hm,trivial⟩
  refine⟨by rw[World.cell?_of_block (w:=w) (setRow_other w b ad.block new hne)];exact hv,?_⟩
  rintro⟨y,hy,hym⟩
  rcases hsub _ _ hy with h|⟨h,_⟩
  ·exact hmu ⟨y,h,hym⟩
  ·exact hne h
theorem dk (b:Nat) (y:AObj):∀σ:Store,(σ.set b y).keys=σ.keys
 |[]=>rfl
 |(k,x)::s=>by
  simp only[Store.set]
  split
  ·simp[Store.keys]
  ·have:=dk b y s
   simp only[Store.keys,map_cons]at*
   rw[this]
theorem jH {b k:Nat} {y z:AObj}:∀{σ:Store},(k,z)∈σ.set b y->σ.keys.Nodup->(k=b/\z=y)\/(k≠b/\(k,z)∈σ)
 |[],h,_=>by simp[Store.set]at h
 |(k0,x0)::s,h,hn=>by
  simp only[Store.keys,map_cons,nodup_cons]at hn
  simp only[Store.set]at h
  split at h
  ·rename_i hk
   subst hk
   rcases mem_cons.1 h with h|h
   ·cases h;exact .inl ⟨rfl,rfl⟩
   ·exact .inr ⟨λe=>hn.1 (mem_map.2 ⟨_,h,e⟩),mem_cons_of_mem _ h⟩
  ·rename_i hk
   rcases mem_cons.1 h with h|h
   ·cases h;exact .inr ⟨hk,by simp⟩
   ·rcases jH h hn.2 with h|⟨h1,h2⟩
    ·exact .inl h
    ·exact .inr ⟨h1,mem_cons_of_mem _ h2⟩
theorem e_store {t:TypeId} {n:Nat} {x y:Operand} (ho:o.op= .store t x y) (hsz:bj P t=some n) (hS:Sat G (σ++ρ) w) (hE:∀j,Rep (σ++ρ) w (env.get j) (a.tmps.getD j undef))
  (h:ptrX ((SOpd.of x).eval G env) λb off=>gJ (σ.get b) λe cs=>bU ((SOpd.of y).eval G env) λc=>
   c.length=n/\off+n<=cs.length/\K aC (σ.set b (.cells e (aH cs off c)))) (hn:Goes G σ ρ w a o K next):o.wp P a w next Q:=by
 have hx:=ao (G:=G) hS hE x
 have hy:=ao (G:=G) hS hE y
 unfold ptrX at h
 split at h
 ·rename_i b off he
  rw[he]at hx
  simp only[Rep]at hx
  unfold gJ at h
  split at h
  ·rename_i e cs hg
   have hm:=Store.get_mem hg
   obtain⟨vs,hh,h1,hr⟩:=hS.obj b _ (mem_append.2 (.inl hm))
   unfold bU at h
   split at h
   ·rename_i c hc
    obtain⟨hcn,hle,hk⟩:=h
    obtain⟨r1,r2⟩:=gA hc hy
    have l1:=hr.length
    have l2:=r1.length
    have hst:=run_storeCells_at P b off e (a.eval y).cells.toList 0 vs w hh (by simp at l1 l2 ⊢;omega) r2
    simp only[Nat.add_zero]at hst
    let new:Array Value:=(vs.toList.take off++(a.eval y).cells.toList++vs.toList.drop (off+(a.eval y).cells.toList.length)).toArray
    have hsize:new.size=vs.size:=by simp[new]at l1 l2 ⊢;omega
    have hrun:(execOp a.eval o).run P w= .ok .skip (w.setRow b new):=by
     have hsv:(storeVar t ⟨b,off,none⟩ (a.eval y)).run P w= .ok () (w.setRow b new):=by
      unfold storeVar
      have:(a.eval y).cells.size=n:=by simp at l2;omega
      simp[bv hsz,this]
      simpa[new]using hst
     simp[execOp,ho,Instr.storeAt,hx,Instr.sureAddr,hsv]
    have hev:Ev σ w (σ.set b (.cells e (aH cs off c))) (w.setRow b new):=Ev.setRow hm hh hsize
    refine eB hrun (hn _ _ _ _ hk ?_ hev (by simp only[aC,Rep];exact⟨#[],rfl,by simp[RepL]⟩))
    have hnd:=hS.nodup_left
    refine hS.step hev (by rw[dk];exact hnd) (λk hk=>.inl (by rwa [dk]at hk)) ?_
    intro k z hz
    rcases jH hz hnd with⟨rfl,rfl⟩|⟨hne,hz⟩
    ·refine⟨new,setRow_heap w k vs new e (0,0) hh,?_,?_⟩
     ·intro v hv
      simp only[new,mem_append]at hv
      rcases hv with(hv|hv)|hv
      ·exact h1 v (mem_of_mem_take hv)
      ·exact r2 v hv
      ·exact h1 v (mem_of_mem_drop hv)
     ·have q1:=RepL.ev hev _ _ hr
      have q2:=RepL.ev hev _ _ r1
      rw[←l2]at hcn
      have e1:=aY cs off c (by omega)
      generalize (σ.set k (.cells e (aH cs off c))++ρ:Store)=τ' at*
      generalize w.setRow k new=w2 at*
      rw[e1]
      simp only[new]
      rw[l2]
      exact RepL.append (RepL.append (RepL.take _ q1) q2) (RepL.drop _ q1)
    ·exact(hS.obj k z (mem_append.2 (.inl hz))).keep hev (setRow_other w b k new hne)
   ·exact h.elim
  ·exact h.elim
 ·exact h.elim
end
end Go.Av
