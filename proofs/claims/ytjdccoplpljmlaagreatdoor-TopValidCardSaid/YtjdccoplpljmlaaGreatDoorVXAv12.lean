/-
  ABSTRACT VALUES, 12: operations that make or write memory.
-/
import Derived.Test.YtjdccoplpljmlaaGreatDoorVXAv10toXAv11
import Derived.Deep.AppendSrc
namespace Go.Av
open Go Go.RowKit List
set_option linter.unusedSimpArgs false
set_option linter.unusedVariables false
theorem ObjSat.keep {σ σ' ρ:Store} {w w':World} (N:Ev σ w σ' w') {b:Nat} {x:AObj} (J:w'.heap[b]? =w.heap[b]?) (h:ObjSat (σ++ρ) w b x):ObjSat (σ'++ρ) w' b x:=by
 cases x with
 |cells e cs=>
  obtain⟨vs,E,F,I⟩:=h
  exact⟨vs,J.trans E,F,RepL.ev N _ _ I⟩
 |tok e k=>
  obtain⟨vs,E,F⟩:=h
  exact⟨vs,J.trans E,F⟩
 |map es=>
  obtain⟨ents,c,E,F,I,M⟩:=h
  exact⟨ents,c,J.trans E,F,RepL.ev N _ _ I,M⟩
 |mapB es bs c=>
  obtain⟨ents,E,F,I,M⟩:=h
  exact⟨ents,J.trans E,F,RepL.ev N _ _ I,M⟩
 |iter m s se l=>exact J.trans h
theorem Sat.lt_left {G:Glob} {σ ρ:Store} {w:World} (h:Sat G (σ++ρ) w) {b:Nat} (E:b∈σ.keys):b<w.heap.size:=
 h.key_lt (by rw[aB];exact mem_append.2 (.inl E))
theorem Sat.nodup_left {G:Glob} {σ ρ:Store} {w:World} (h:Sat G (σ++ρ) w):σ.keys.Nodup:=by
 have:=h.nodup
 rw[aB]at this
 exact(nodup_append.1 this).1
theorem Sat.alloc {G:Glob} {σ ρ:Store} {w:World} (h:Sat G (σ++ρ) w) (o:Obj) (x:AObj)
  (M:ObjSat (((w.heap.size,x)::σ)++ρ) (w.alloc o) w.heap.size x):Sat G (((w.heap.size,x)::σ)++ρ) (w.alloc o):=by
 refine h.step (Ev.alloc o x) ?_ ?_ ?_
 ·simp only[Store.keys,map_cons,nodup_cons]
  exact⟨λJ=>Nat.lt_irrefl _ (h.lt_left J),h.nodup_left⟩
 ·intro b E
  simp only[Store.keys,map_cons,mem_cons]at E
  rcases E with rfl|E
  ·exact .inr (Nat.le_refl _)
  ·exact .inl E
 ·intro b y F
  rcases mem_cons.1 F with e|F
  ·cases e;exact M
  ·have I:=h.obj b y (mem_append.2 (.inl F))
   exact I.keep (Ev.alloc o x) (Below.heap_alloc w o b I.lt)
theorem az.flat {τ:Store} {w:World} {a:Addr} {sz:Nat}:∀{i:Nat} {rows:List (List AV)},az τ w a sz i rows->RepAt τ w a (i*sz) rows.flatten/\rows.flatten.length=rows.length*sz/\∀r∈rows,r.length=sz
 |i,[],_=>by simp[RepAt]
 |i,r::rs,h=>by
  simp only[az]at h
  obtain⟨F,N,O⟩:=h
  obtain⟨k1,T,V⟩:=az.flat O
  refine⟨RepAt.of_get λj M=>?_,?_,?_⟩
  ·simp only[flatten_cons]at M ⊢
   by_cases E:j<r.length
   ·rw[getElem_append_left E];exact N.get j E
   ·have I:j-r.length<rs.flatten.length:=by rw[length_append]at M;omega
    rw[getElem_append_right (by omega)]
    have:=k1.get (j-r.length) I
    rw[show(i+1)*sz+(j-r.length)=i*sz+j by rw[Nat.add_mul,F];omega]at this
    exact this
  ·simp[F,T,Nat.add_mul,Nat.add_comm]
  ·intro q J
   rcases mem_cons.1 J with rfl|J
   ·exact F
   ·exact V q J
theorem az.of_flat {τ:Store} {w:World} {a:Addr} {sz:Nat}:∀{i:Nat} {rows:List (List AV)},(∀r∈rows,r.length=sz)->RepAt τ w a (i*sz) rows.flatten->az τ w a sz i rows
 |i,[],_,_=>by simp only[az]
 |i,r::rs,hl,h=>by
  simp only[az]
  have E:=hl r (by simp)
  simp only[flatten_cons]at h
  refine⟨E,?_,az.of_flat (λq F=>hl q (mem_cons_of_mem _ F)) ?_⟩
  ·have:=h.take r.length
   simpa using this
  ·refine RepAt.of_get λj I=>?_
   have:=h.get (r.length+j) (by rw[length_append];omega)
   rw[getElem_append_right (by omega)]at this
   simp only[Nat.add_sub_cancel_left]at this
   rw[show(i+1)*sz+j=i*sz+(r.length+j)by rw[Nat.add_mul,E];omega]
   exact this
section
variable {G:Glob} {P:Program} {σ ρ:Store} {w:World} {env:Env} {a:Act} {o:Oper}
def Goes (G:Glob) (σ ρ:Store) (w:World) (a:Act) (o:Oper) (K:AV->Store->Prop) (next:Act->World->Prop):Prop:=
 ∀v r σ' w',K r σ'->Sat G (σ'++ρ) w'->Ev σ w σ' w'->Rep (σ'++ρ) w' r v->next (a.put o.dst v) w'
variable {K:AV->Store->Prop} {next:Act->World->Prop} {Q:Exit->Act->World->Prop}
theorem bH {v:Value} {w':World} (E:(execOp a.eval o).run P w= .ok (.value v) w') (h:next (a.put o.dst v) w'):o.wp P a w next Q:=by
 unfold Oper.wp
 rw[E]
 exact h
theorem ep {w':World} (E:(execOp a.eval o).run P w= .ok .skip w') (h:next (a.put o.dst undef) w'):o.wp P a w next Q:=by
 unfold Oper.wp
 rw[E]
 exact h
theorem e_quiet {op:Op} {I:SOp} (O:o.op=op) (V:bN P op=some I) (F:Sat G (σ++ρ) w) (J:∀j,Rep (σ++ρ) w (env.get j) (a.tmps.getD j undef)) (h:aq G I env σ λr=>K r σ)
  (N:Goes G σ ρ w a o K next):o.wp P a w next Q:=by
 obtain⟨r,u,M,T,E⟩:=cZ O V rfl F J h
 exact bH (E w (λ_=>Same.refl w)) (N u r σ w M F (Ev.refl σ w) T)
theorem eR (E:Sat G (σ++ρ) w):w.heap.size∉σ.keys:=λh=>Nat.lt_irrefl _ (E.lt_left h)
theorem e_alloc {e:TypeId} {z:List AV} (X:o.op= .alloc e) (O:cu P e=some z) (M:Sat G (σ++ρ) w)
  (h:newX σ λb=>K (.sc (.pointer (some ⟨b,0,none⟩))) ((b,.cells e z)::σ)) (V:Goes G σ ρ w a o K next):o.wp P a w next Q:=by
 obtain⟨i,v,hi,N,_,T⟩:=cD (τ:=σ++ρ) (w:=w) O
 have F:(execOp a.eval o).run P w= .ok (.value (.pointer (some ⟨w.heap.size,0,none⟩))) (w.alloc (.cells v.cells e)):=by
  simp[execOp,X,Instr.alloc,zeroValue,typeInfo,hi,N,newVar,newRow]
 refine bH F (V _ _ _ _ (h _ (eR M)) (M.alloc _ _ ?_) (Ev.alloc _ _) (by simp only[Rep]))
 obtain⟨Y,Z,E,I,J,_⟩:=cD (τ:=((w.heap.size,.cells e z)::σ)++ρ) (w:=w.alloc (.cells v.cells e)) O
 rw[hi]at E;cases E
 rw[N]at I;cases I
 exact⟨v.cells,heap_alloc_new w _,T,J⟩
theorem ms {e:TypeId} {n:Nat} {x:Operand} (ho:o.op= .box e x) (I:Sat G (σ++ρ) w) (Y:∀j,Rep (σ++ρ) w (env.get j) (a.tmps.getD j undef))
  (h:bQ ((SOpd.of x).eval G env) λc=>c.length=n/\K (.ref c) σ) (hn:Goes G σ ρ w a o K next):o.wp P a w next Q:=by
 unfold bQ at h
 split at h
 ·rename_i c hc
  obtain⟨r1,r2⟩:=fV hc (ar I Y x)
  have O:(execOp a.eval o).run P w= .ok (.value (.pointer (some ⟨w.heap.size,0,none⟩))) (w.alloc (.cells (a.eval x).cells e)):=by
   simp[execOp,ho,Instr.box,newVar,newRow]
  have E:Ev σ w σ (w.alloc (.cells (a.eval x).cells e)):=Ev.alloc0 _
  have M:∀b y,(b,y)∈σ++ρ->b<w.heap.size:=λb y F=>(I.obj b y F).lt
  have T:Sat G (σ++ρ) (w.alloc (.cells (a.eval x).cells e)):=
   I.step E I.nodup_left (λb Z=>.inl Z) (λb y F=>(I.obj b y (mem_append.2 (.inl F))).keep E (Below.heap_alloc _ _ b (M b y (mem_append.2 (.inl F)))))
  refine bH O (hn _ _ _ _ h.2 T E ?_)
  have V:=RepL.ev E _ _ r1
  have l1:=r1.length
  simp only[Rep]
  refine⟨_,rfl,RepAt.of_get λj X=>?_⟩
  have J:j<(a.eval x).cells.toList.length:=by rw[l1];exact X
  refine⟨(a.eval x).cells.toList[j],⟨?_,?_⟩,r2 _ (getElem_mem _),V.get j X J⟩
  ·have N:=heap_alloc_new w (.cells (a.eval x).cells e)
   rw[add_lit]
   simp only[World.cell?,N,Nat.zero_add]
   simp at J ⊢
  ·rintro⟨y,F,_⟩
   rw[add_block]at F
   exact Nat.lt_irrefl _ (M _ _ F)
 ·exact h.elim
theorem e_box {e:TypeId} {n:Nat} {x:Operand} (N:o.op= .box e x) (F:Sat G (σ++ρ) w) (I:∀j,Rep (σ++ρ) w (env.get j) (a.tmps.getD j undef))
  (h:bQ ((SOpd.of x).eval G env) λc=>c.length=n/\newX σ λb=>K (.sc (.pointer (some ⟨b,0,none⟩))) ((b,.cells e c)::σ)) (M:Goes G σ ρ w a o K next):o.wp P a w next Q:=by
 unfold bQ at h
 split at h
 ·rename_i c J
  obtain⟨r1,r2⟩:=fV J (ar F I x)
  have E:(execOp a.eval o).run P w= .ok (.value (.pointer (some ⟨w.heap.size,0,none⟩))) (w.alloc (.cells (a.eval x).cells e)):=by
   simp[execOp,N,Instr.box,newVar,newRow]
  refine bH E (M _ _ _ _ (h.2 _ (eR F)) (F.alloc _ _ ?_) (Ev.alloc _ _) (by simp only[Rep]))
  exact⟨_,heap_alloc_new w _,r2,RepL.ev (Ev.alloc _ _) _ _ r1⟩
 ·exact h.elim
theorem Ev.setRow {b:Nat} {e:TypeId} {cs cs':List AV} {vs new:Array Value} (O:(b,AObj.cells e cs)∈σ) (X:w.heap[b]? =some (.cells vs e (0,0))) (hs:new.size=vs.size):
  Ev σ w (σ.set b (.cells e cs')) (w.setRow b new):=by
 have F:∀{σ:Store} (k:Nat) (y:AObj),(k,y)∈σ.set b (.cells e cs')->(k,y)∈σ\/(k=b/\y= .cells e cs'):=by
  intro σ
  induction σ with
  |nil=>intro k y h;simp[Store.set]at h
  |cons p s ih=>
   intro k y h
   obtain⟨k0,x0⟩:=p
   simp only[Store.set]at h
   split at h
   ·rename_i I
    rcases mem_cons.1 h with h|h
    ·cases h;exact .inr ⟨I,rfl⟩
    ·exact .inl (mem_cons_of_mem _ h)
   ·rcases mem_cons.1 h with h|h
    ·cases h;exact .inl (by simp)
    ·rcases ih k y h with h|h
     ·exact .inl (mem_cons_of_mem _ h)
     ·exact .inr h
 have J:∀k,k∈(σ.set b (.cells e cs')).keys->k∈σ.keys:=by
  intro k I
  obtain⟨p,Z,rfl⟩:=mem_map.1 I
  rcases F p.1 p.2 Z with h|⟨h,_⟩
  ·exact mem_map.2 ⟨p,h,rfl⟩
  ·rw[h];exact mem_map.2 ⟨_,O,rfl⟩
 refine⟨rfl,rfl,rfl,by simp,λk I Y=>⟨setRow_other w b k new (λe=>Y (by rw[e];exact mem_map.2 ⟨_,O,rfl⟩)),λh=>Y (J k h)⟩,?_,?_⟩
 ·intro k s E
  unfold World.shape? at*
  by_cases I:k=b
  ·subst I
   rw[setRow_heap w k vs new e (0,0) X]
   rw[X]at E
   simp at E ⊢
   rw[hs];exact E
  ·rw[setRow_other w b k new I];exact E
 ·intro V v hv M
  have N:V.block≠b:=λh=>M ⟨AObj.cells e cs,by rw[h];exact O,trivial⟩
  refine⟨by rw[World.cell?_of_block (w:=w) (setRow_other w b V.block new N)];exact hv,?_⟩
  rintro⟨y,hy,T⟩
  rcases F _ _ hy with h|⟨h,_⟩
  ·exact M ⟨y,h,T⟩
  ·exact N h
theorem dj (b:Nat) (y:AObj):∀σ:Store,(σ.set b y).keys=σ.keys
 |[]=>rfl
 |(k,x)::s=>by
  simp only[Store.set]
  split
  ·simp[Store.keys]
  ·have:=dj b y s
   simp only[Store.keys,map_cons]at*
   rw[this]
theorem jx {b k:Nat} {y z:AObj}:∀{σ:Store},(k,z)∈σ.set b y->σ.keys.Nodup->(k=b/\z=y)\/(k≠b/\(k,z)∈σ)
 |[],h,_=>by simp[Store.set]at h
 |(k0,x0)::s,h,hn=>by
  simp only[Store.keys,map_cons,nodup_cons]at hn
  simp only[Store.set]at h
  split at h
  ·rename_i E
   subst E
   rcases mem_cons.1 h with h|h
   ·cases h;exact .inl ⟨rfl,rfl⟩
   ·exact .inr ⟨λe=>hn.1 (mem_map.2 ⟨_,h,e⟩),mem_cons_of_mem _ h⟩
  ·rename_i E
   rcases mem_cons.1 h with h|h
   ·cases h;exact .inr ⟨E,by simp⟩
   ·rcases jx h hn.2 with h|⟨F,I⟩
    ·exact .inl h
    ·exact .inr ⟨F,mem_cons_of_mem _ I⟩
theorem e_store {t:TypeId} {n:Nat} {x y:Operand} (ho:o.op= .store t x y) (ad:aZ P t=some n) (J:Sat G (σ++ρ) w) (hE:∀j,Rep (σ++ρ) w (env.get j) (a.tmps.getD j undef))
  (h:ptrX ((SOpd.of x).eval G env) λb off=>gj (σ.get b) λe cs=>bQ ((SOpd.of y).eval G env) λc=>
   c.length=n/\off+n<=cs.length/\K aE (σ.set b (.cells e (splice cs off c)))) (hn:Goes G σ ρ w a o K next):o.wp P a w next Q:=by
 have hx:=ar (G:=G) J hE x
 have hy:=ar (G:=G) J hE y
 unfold ptrX at h
 split at h
 ·rename_i b off he
  rw[he]at hx
  simp only[Rep]at hx
  unfold gj at h
  split at h
  ·rename_i e cs hg
   have hm:=Store.get_mem hg
   obtain⟨vs,X,h1,hr⟩:=J.obj b _ (mem_append.2 (.inl hm))
   unfold bQ at h
   split at h
   ·rename_i c hc
    obtain⟨V,ag,Y⟩:=h
    obtain⟨r1,r2⟩:=fV hc hy
    have l1:=hr.length
    have T:=r1.length
    have O:=run_storeCells_at P b off e (a.eval y).cells.toList 0 vs w X (by simp at l1 T ⊢;omega) r2
    simp only[Nat.add_zero]at O
    let new:Array Value:=(vs.toList.take off++(a.eval y).cells.toList++vs.toList.drop (off+(a.eval y).cells.toList.length)).toArray
    have I:new.size=vs.size:=by simp[new]at l1 T ⊢;omega
    have N:(execOp a.eval o).run P w= .ok .skip (w.setRow b new):=by
     have ac:(storeVar t ⟨b,off,none⟩ (a.eval y)).run P w= .ok () (w.setRow b new):=by
      unfold storeVar
      have:(a.eval y).cells.size=n:=by simp at T;omega
      simp[ba ad,this]
      simpa[new]using O
     simp[execOp,ho,Instr.storeAt,hx,Instr.sureAddr,ac]
    have E:Ev σ w (σ.set b (.cells e (splice cs off c))) (w.setRow b new):=Ev.setRow hm X I
    refine ep N (hn _ _ _ _ Y ?_ E (by simp only[aE,Rep];exact⟨#[],rfl,by simp[RepL]⟩))
    have M:=J.nodup_left
    refine J.step E (by rw[dj];exact M) (λk Y=>.inl (by rwa [dj]at Y)) ?_
    intro k z hz
    rcases jx hz M with⟨rfl,rfl⟩|⟨Z,hz⟩
    ·refine⟨new,setRow_heap w k vs new e (0,0) X,?_,?_⟩
     ·intro v F
      simp only[new,mem_append]at F
      rcases F with(F|F)|F
      ·exact h1 v (mem_of_mem_take F)
      ·exact r2 v F
      ·exact h1 v (mem_of_mem_drop F)
     ·have q1:=RepL.ev E _ _ hr
      have q2:=RepL.ev E _ _ r1
      rw[←T]at V
      have e1:=aR cs off c (by omega)
      generalize (σ.set k (.cells e (splice cs off c))++ρ:Store)=τ' at*
      generalize w.setRow k new=w2 at*
      rw[e1]
      simp only[new]
      rw[T]
      exact RepL.append (RepL.append (RepL.take _ q1) q2) (RepL.drop _ q1)
    ·exact(J.obj k z (mem_append.2 (.inl hz))).keep E (setRow_other w b k new Z)
   ·exact h.elim
  ·exact h.elim
 ·exact h.elim
end
end Go.Av
