/-
  ABSTRACT VALUES, 13: slices that are made and that grow.
-/
import Derived.Test.YtnoakpkjccigoaaGreatDoorVXAv10toXAv12
import Derived.Deep.LoopGhost
namespace Go.Av
open Go Go.RowKit List
set_option linter.unusedSimpArgs false
set_option linter.unusedVariables false
theorem iw (z:List AV):∀(len i:Nat),i<len*z.length->(List.replicate len z).flatten[i]? =z[i % z.length]?
 |0,i,h=>by simp at h
 |len+1,i,h=>by
  rw[replicate_succ,flatten_cons,getElem?_append]
  split
  ·rename_i D;rw[Nat.mod_eq_of_lt D]
  ·rename_i D
   rw[iw z len (i-z.length) (by rw[Nat.add_mul]at h;omega)]
   rw[Nat.mod_eq_sub_mod (a:=i) (by omega)]
theorem au {sz:Nat}:∀D:List (List AV),(∀r∈D,r.length=sz)->D.flatten.length=D.length*sz
 |[],_=>by simp
 |r::D,h=>by rw[flatten_cons,length_append,h r (by simp),au D (λq E=>h q (mem_cons_of_mem _ E)),length_cons,Nat.add_mul];omega
theorem bV (σ:Store) (g:Option Nat):SubN (σ.erase g) σ:=by
 cases g with
 |none=>exact SubN.refl σ
 |some b=>
  refine⟨λp E=>(mem_filter.1 E).1,λD=>?_⟩
  exact List.Nodup.sublist (List.Sublist.map _ filter_sublist) D
theorem cx (σ:Store) (b:Nat):b∉(σ.erase (some b)).keys:=by
 intro h
 obtain⟨p,D,e⟩:=mem_map.1 h
 have:=(mem_filter.1 D).2
 simp at this
 exact this e
theorem ar.vals {τ:Store} {w:World} {ad:Addr} {sz:Nat} {rows:List (List AV)} (h:ar τ w ad sz 0 rows):
  ∃vs:List Value,vs.length=rows.length*sz/\RepL τ w rows.flatten vs/\(∀v∈vs,v.oneCell'=true)/\∀j v,vs[j]? =some v->w.cell? (ad.add j)=some v:=by
 obtain⟨D,F,_⟩:=h.flat
 rw[Nat.zero_mul]at D
 obtain⟨vs,I,E,J,M⟩:=iO D rows.flatten.length (Nat.le_refl _)
 rw[take_length]at E
 exact⟨vs,by rw[I,F],E,J,M⟩
theorem md {τ:Store} {b k o:Nat} {e:TypeId} (D:b∉τ.keys) (I:o<k):¬Mut ((b,.tok e k)::τ) b o:=by
 rintro⟨y,F,E⟩
 rcases mem_cons.1 F with h|h
 ·cases h
  have:k<=o:=E
  omega
 ·exact D (mem_map.2 ⟨_,h,rfl⟩)
section
variable {G:Glob} {P:Program} {σ ρ:Store} {w:World} {env:Env} {a:Act} {o:Oper} {K:AV->Store->Prop} {next:Act->World->Prop} {Q:Exit->Act->World->Prop}
theorem ge {τ:Store} {w2:World} {B cap:Nat} {e:TypeId} {sz:Nat} {rows:List (List AV)} {C:Array Value} {vs:List Value} (O:B∉τ.keys) (I:w2.heap[B]? =some (.cells C e (0,0)))
  (Y:rows.length<=cap) (Z:cap<=maxLen) (hs:C.size=cap*sz) (J:∀r∈rows,r.length=sz) (M:RepL ((B,.tok e (rows.length*sz))::τ) w2 rows.flatten vs) (N:∀v∈vs,v.oneCell'=true)
  (ht:∀j,j<vs.length->C.toList[j]? =vs[j]?):Rep ((B,.tok e (rows.length*sz))::τ) w2 (.own (some B) e sz rows) (.slice (some ⟨B,0,none⟩) rows.length cap):=by
 simp only[Rep]
 refine⟨cap,rfl,Y,Z,?_,ar.of_flat J ?_⟩
 ·simp[World.shape?,I,hs]
 ·have T:∀E:List (List AV),(∀r∈E,r.length=sz)->E.flatten.length=E.length*sz:=by
   intro E
   induction E with
   |nil=>intro _;simp
   |cons r E ih=>intro h;rw[flatten_cons,length_append,h r (by simp),ih (λq hq=>h q (mem_cons_of_mem _ hq)),length_cons,Nat.add_mul];omega
  have F:=au rows J
  have ac:=M.length
  refine RepAt.of_get λj X=>?_
  rw[Nat.zero_mul,Nat.zero_add,add_lit,Nat.zero_add]
  have D:j<vs.length:=by omega
  have V:=M.get j X D
  refine⟨vs[j],⟨?_,?_⟩,N _ (getElem_mem D),V⟩
  ·rw[cell_of_row w2 B j C e (0,0) I]
   have:=ht j D
   rw[getElem?_eq_getElem D]at this
   simpa using this
  ·exact md (o:=j) O (by omega)
theorem e_buildS {t e:TypeId} {len sz:Nat} {z:List AV} {parts:Array (Nat×Operand)} (ho:o.op= .buildSlice t len parts) (hu:P.underlying t=some (.slice e)) (an:bj P e=some sz) (hz:cK P e=some z)
  (T:z.length=sz) (O:sz≠0) (be:len*sz<=16777216) (hS:Sat G (σ++ρ) w) (hE:∀j,Rep (σ++ρ) w (env.get j) (a.tmps.getD j undef))
  (h:ga G env (List.replicate len z).flatten ((parts.toList.map λ(p:Nat×Operand)=>(p.1,SOpd.of p.2)).map λp=>(p.1*sz,sz,p.2)) λcs=>
   newX σ λb=>∃rows:List (List AV),rows.length=len/\(∀r∈rows,r.length=sz)/\rows.flatten=cs/\K (.own (some b) e sz rows) ((b,.tok e (len*sz))::σ))
  (hn:Goes G σ ρ w a o K next):o.wp P a w next Q:=by
 obtain⟨i,v,hi,hv,hr,h1⟩:=cG (τ:=σ++ρ) (w:=w) hz
 have ba:=hr.length
 have bb:v.cells.size=sz:=by simp at ba;omega
 let C0:Array Value:=(Array.range (len*sz)).map (v.cells[· % v.cells.size]!)
 have J:∀k,k<len*sz->k % sz<sz:=λk _=>Nat.mod_lt _ (Nat.pos_of_ne_zero O)
 have I:(List.replicate len z).flatten.length=len*sz:=by simp[T]
 have Z:∀k,(h:k<len*sz)->C0.toList[k]? =v.cells.toList[k % sz]? :=by
  intro k F
  have:=J k F
  simp[C0,F,bb,this]
 have M:C0.toList.length=len*sz:=by simp[C0]
 have ah:RepL (σ++ρ) w (List.replicate len z).flatten C0.toList:=by
  refine RepL.of_get (by rw[M,I]) (λk F aw=>?_)
  have D:k<len*sz:=by rw[I]at F;exact F
  have hm:=J k D
  have V:=Z k D
  have X:=iw z len k (by rw[T];exact D)
  rw[T]at X
  rw[getElem?_eq_getElem aw,getElem?_eq_getElem (by simp;omega)]at V
  rw[getElem?_eq_getElem F,getElem?_eq_getElem (by omega)]at X
  have g:=hr.get (k % sz) (by omega) (by simp;omega)
  rw[Option.some.inj V,Option.some.inj X]
  exact g
 obtain⟨C',cs',k1,k2,k3,k4⟩:=kd (G:=G) (λj=>some (j*sz,sz)) parts.toList _ _ C0 _ (by
  intro j p q hp hq
  simp only[getElem?_map,hp,Option.map_some,Option.some.injEq]at hq
  subst hq
  exact⟨rfl,rfl⟩) (by simp) hS hE ah (by
   intro u hu
   obtain⟨k,F,rfl⟩:=getElem_of_mem hu
   have D:k<len*sz:=by rw[M]at F;exact F
   have V:=Z k D
   rw[getElem?_eq_getElem F,getElem?_eq_getElem (by simp;have:=J k D;omega)]at V
   rw[Option.some.inj V]
   exact h1 _ (getElem_mem _)) h
 have hB:=fk hS
 obtain⟨rows,r1,r2,r3,F⟩:=k2 _ hB
 have ac:=k3.length
 have al:(execOp a.eval o).run P w= .ok (.value (.slice (some ⟨w.heap.size,0,none⟩) len len)) (w.alloc (.cells C' e)):=by
  have hb:(Instr.buildSlice t len ((parts.map λ(x:Nat×Operand)=>(x.1,a.eval x.2)))).run P w= .ok (.slice (some ⟨w.heap.size,0,none⟩) len len) (w.alloc (.cells C' e)):=by
   have N:¬16777216<len*sz:=by omega
   have E:Instr.fill (λj=>some (j*sz,sz)) ((Array.range (len*sz)).map (v.cells[· % v.cells.size]!)) (parts.map λ(x:Nat×Operand)=>(x.1,a.eval x.2)).toList=some C':=by
    rw[Array.toList_map];exact k1
   by_cases h0:len*sz=0
   ·rw[h0]at E
    have e:(Array.range 0).map (v.cells[· % v.cells.size]!)=#[]:=by simp
    rw[e]at E
    simp only[Instr.buildSlice,Sem.run_bind,run_underlying hu,bv an,Result.andThen_ok,h0]
    have X:(Array.range 0).map (λ_=>(default:Value))=#[]:=by apply Array.ext';simp
    rw[Array.toList_map]at E
    simp[X,E,newRow]
   ·simp only[Instr.buildSlice,Sem.run_bind,run_underlying hu,bv an,Result.andThen_ok]
    simp[h0,N,zeroValue,typeInfo,hi,hv]
    simp at E
    simp[E,newRow]
  simp only[execOp,ho,Sem.run_bind,hb,Result.andThen_ok,Sem.run_pure]
 have Y:w.heap.size∉(σ++ρ:Store).keys:=λhm=>Nat.lt_irrefl _ (hS.key_lt hm)
 refine bF al (hn _ _ _ _ F (hS.alloc _ _ ⟨C',heap_alloc_new w _,?_⟩) (Ev.alloc _ _) ?_)
 ·have e:cs'.length=len*sz:=by
   rw[←r3]
   rw[au rows r2,r1]
  exact⟨by simp at ac;omega,k4⟩
 ·subst r1
  have bd:cs'.length=rows.length*sz:=by
   rw[←r3]
   exact au rows r2
  have N:rows.length<=rows.length*sz:=Nat.le_mul_of_pos_right _ (Nat.pos_of_ne_zero O)
  refine ge (τ:=σ++ρ) (vs:=C'.toList) Y (heap_alloc_new w _) (Nat.le_refl _) (by unfold maxLen;omega) (by simp at ac;omega) r2 ?_ k4 (λj _=>rfl)
  rw[r3]
  exact RepL.ev (σ:=σ) (σ':=(w.heap.size,.tok e (rows.length*sz))::σ) (ρ:=ρ) (Ev.alloc _ _) _ _ k3
theorem cv {z:Array Value} {n:Nat} {v:Value} (h:v∈(Builtin.zeroCells z n).toList):v∈z.toList:=by
 unfold Builtin.zeroCells at h
 simp only[Array.toList_map,mem_map]at h
 obtain⟨i,hi,rfl⟩:=h
 have hi:i<n*z.size:=by simpa using hi
 have E:0<z.size:=by
  rcases Nat.eq_zero_or_pos z.size with h0|h0
  ·rw[h0]at hi;omega
  ·exact h0
 have D:=Nat.mod_lt i E
 rw[getElem!_pos z (i % z.size) D]
 simp
/-! ### append -/
theorem dX {t T ty e:TypeId} {i:TypeInfo} (Y:P.underlying t=some (.slice e)) (hi:P.info? e=some i) {b D F:Nat} {cur:Array Value} {e':TypeId} (X:w.heap[b]? =some (.cells cur e' (0,0)))
  {x:Value} {n:Nat} {E:List Value} (N:Src P i.size T x n E w) (I:D+n<=F) (J:D*i.size+E.length<=cur.size):
  (Builtin.append_ #[t,T] ty #[.slice (some ⟨b,0,none⟩) D F,x]).run P w=
   .ok (.slice (some ⟨b,0,none⟩) (D+n) F) (w.setRow b (cur.toList.take (D*i.size)++E++cur.toList.drop (D*i.size+E.length)).toArray):=by
 have M:=run_storeCells_at P b (D*i.size) e' E 0 cur w X (by simpa using J) N.one
 simp only[Nat.add_zero]at M
 rcases N.kind with⟨V,O⟩|O<;>simp[Builtin.append_,run_underlying Y,run_underlying O,sizeOf,typeInfo,hi,N.len,I,N.cells,Addr.add_lit,M]
theorem dW {t I ty e:TypeId} {i:TypeInfo} (M:P.underlying t=some (.slice e)) (hi:P.info? e=some i) {x:Value} {D:List Value} (E:Src P i.size I x 0 D w):
  (Builtin.append_ #[t,I] ty #[.slice none 0 0,x]).run P w= .ok (.slice none 0 0) w:=by
 rcases E.kind with⟨J,F⟩|F<;>simp[Builtin.append_,run_underlying M,run_underlying F,sizeOf,typeInfo,hi,E.len,E.cells]
theorem Ev.tokRow {b k N:Nat} {e e':TypeId} {vs new:Array Value} (X:(b,AObj.tok e k)∈σ) (T:w.heap[b]? =some (.cells vs e' (0,0))) (hs:new.size=vs.size) (al:k<=N)
  (hp:∀j,j<k->new[j]? =vs[j]?):Ev σ w ((b,.tok e N)::σ.erase (some b)) (w.setRow b new):=by
 have D:b∈σ.keys:=mem_map.2 ⟨_,X,rfl⟩
 refine⟨rfl,rfl,rfl,by simp,λq Z Y=>⟨setRow_other w b q new (λe=>Y (by rw[e];exact D)),?_⟩,?_,?_⟩
 ·intro h
  simp only[Store.keys,map_cons,mem_cons]at h
  rcases h with h|h
  ·exact Y (by rw[h];exact D)
  ·exact Y (ct (bV σ (some b)).1 h)
 ·intro q s E
  unfold World.shape? at*
  by_cases Z:q=b
  ·subst Z
   rw[setRow_heap w q vs new e' (0,0) T]
   rw[T]at E
   simp at E ⊢
   rw[hs];exact E
  ·rw[setRow_other w b q new Z];exact E
 ·intro ad v I F
  have O:¬Mut ((b,.tok e N)::σ.erase (some b)) ad.block ad.off:=by
   rintro⟨y,hy,M⟩
   rcases mem_cons.1 hy with h|h
   ·have J:ad.block=b:=congrArg Prod.fst h
    have ah:y= .tok e N:=congrArg Prod.snd h
    subst ah
    refine F ⟨.tok e k,by rw[J];exact X,?_⟩
    have:N<=ad.off:=M
    show k<=ad.off
    omega
   ·exact F ⟨y,(bV σ (some b)).1 _ h,M⟩
  refine⟨?_,O⟩
  by_cases J:ad.block=b
  ·have V:ad.off<k:=by
    rcases Nat.lt_or_ge ad.off k with h|h
    ·exact h
    ·exact absurd ⟨.tok e k,by rw[J];exact X,h⟩ F
   unfold World.cell? at*
   rw[J]at I ⊢
   rw[setRow_heap w b vs new e' (0,0) T]
   rw[T]at I
   simp only at I ⊢
   split at I
   ·cases I
   ·rename_i ac;rw[if_neg ac,hp _ V];exact I
  ·rw[World.cell?_of_block (w:=w) (setRow_other w b ad.block new J)];exact I
theorem srcX_ok {sz:Nat} {x:AV} {u:Value} {τ:Store} {KR:List (List AV)->Prop} {M e':TypeId} (T:P.underlying M=some (.slice e')) (I:Rep τ w x u) (h:srcX sz x KR):
  ∃ys D,KR ys/\Src P sz M u ys.length D w/\RepL τ w ys.flatten D/\∀r∈ys,r.length=sz:=by
 have F:∀(ad:Addr) (cap:Nat) (ys:List (List AV)),u= .slice (some ad) ys.length cap->ar τ w ad sz 0 ys->KR ys->∃ys D,KR ys/\Src P sz M u ys.length D w/\RepL τ w ys.flatten D/\∀r∈ys,r.length=sz:=by
  intro ad cap ys O J N
  obtain⟨vs,V,X,Y,Z⟩:=J.vals
  exact⟨ys,vs,N,by rw[O];exact Src.ofSlice w T ad _ cap vs V Z Y,X,J.flat.2.2⟩
 have E:u= .slice none 0 0->KR []->∃ys D,KR ys/\Src P sz M u ys.length D w/\RepL τ w ys.flatten D/\∀r∈ys,r.length=sz:=λO N=>
  ⟨[],[],N,by rw[O];exact Src.ofNil w T 0,by simp[RepL],by simp⟩
 unfold srcX at h
 split at h
 ·simp only[Rep]at I;exact E I h
 ·obtain⟨rfl,h⟩:=h
  simp only[Rep]at I
  rcases I with⟨I,rfl⟩|⟨ad,cap,I,_,_,J⟩
  ·exact E I h
  ·exact F ad cap _ I J h
 ·rename_i g e ac rows
  obtain⟨rfl,h⟩:=h
  cases g with
  |none=>simp only[Rep]at I;obtain⟨I,rfl⟩:=I;exact E I h
  |some b=>simp only[Rep]at I;obtain⟨cap,I,_,_,_,J⟩:=I;exact F _ cap _ I J h
 ·exact h.elim
theorem lO (m:Nat):∀(r c:Nat),4*Builtin.growBy m r c<=max (4*c) (5*m+768)
 |0,c=>by rw[Builtin.growBy];omega
 |r+1,c=>by
  rw[Builtin.growBy]
  split
  ·omega
  ·have:=lO m r (c+(c+768) / 4)
   omega
theorem Fits.grow {D old bytes:Nat} (h:Fits D bytes) (I:old<D):Builtin.nextslicecap D old*bytes<=281474976710656:=by
 rcases h with h|⟨J,M⟩
 ·exact growslice_fits I h
 ·unfold Builtin.nextslicecap
  split
  ·omega
  ·split
   ·have:2*old*bytes<=512*bytes:=Nat.mul_le_mul_right _ (by omega)
    omega
   ·have N:=lO D 4 old
    have E:4*Builtin.growBy D 4 old<=5*D+768:=by omega
    have F:4*Builtin.growBy D 4 old*bytes<=(5*D+768)*bytes:=Nat.mul_le_mul_right _ E
    rw[Nat.add_mul,Nat.mul_assoc,Nat.mul_assoc 5]at F
    omega
theorem Fits.le {n bytes:Nat} (h:Fits n bytes):n*bytes<=211106232532992:=by
 rcases h with h|⟨_,h⟩<;>omega
def AppEnds (G:Glob) (P:Program) (σ ρ:Store) (w:World) (t D ty:TypeId) (xv yv:Value) (K:AV->Store->Prop):Prop:=
 ∃v w' r σ',(Builtin.append_ #[t,D] ty #[xv,yv]).run P w= .ok v w'/\K r σ'/\Sat G (σ'++ρ) w'/\Ev σ w σ' w'/\Rep (σ'++ρ) w' r v
theorem qI {t tx ty e:TypeId} {i:TypeInfo} {z:List AV} {xv yv:Value} {g:Option Nat} {rows ys:List (List AV)} {F:List Value}
  (hu:P.underlying t=some (.slice e)) (hi:P.info? e=some i) (hz:cK P e=some z) (e8:z.length=i.size) (e4:i.size≠0) (d2:i.bytes≠0)
  (hS:Sat G (σ++ρ) w) (hx:Rep (σ++ρ) w (.own g e i.size rows) xv) (J:Src P i.size tx yv ys.length F w) (bx:RepL (σ++ρ) w ys.flatten F) (cm:∀r∈ys,r.length=i.size)
  (h:appX0 e i.size i.bytes σ g rows ys K):AppEnds G P σ ρ w t tx ty xv yv K:=by
 obtain⟨i',zv,bm,e3,e1,e0⟩:=cG (τ:=σ++ρ) (w:=w) hz
 rw[hi]at bm;cases bm
 have e2:zv.cells.size=i.size:=by have:=e1.length;simp at this;omega
 obtain⟨ch,V,hK⟩:=h
 have bs:=J.newsLen
 have X:rows.length+ys.length<=maxLen:=by
  have:=Nat.le_mul_of_pos_right (rows.length+ys.length) (Nat.pos_of_ne_zero d2)
  have:=V.le
  unfold maxLen;omega
 have grow:∀(T:Option Addr) (cap:Nat) (D:List Value),xv= .slice T rows.length cap->D.length=rows.length*i.size->RepL (σ++ρ) w rows.flatten D->(∀v∈D,v.oneCell'=true)->(∀r∈rows,r.length=i.size)->
   (Builtin.firstCells i.size rows.length (.slice T rows.length cap)).run P w.drew= .ok D.toArray w.drew->cap<rows.length+ys.length->rows.length+ys.length<=maxLen->AppEnds G P σ ρ w t tx ty xv yv K:=by
  intro T cap D E dd dl bu aw d4 bp bh
  have M:=run_append_grow_src (P:=P) w t tx ty e i zv hu hi e3 T rows.length cap D d4 yv ys.length F J bp (by unfold maxLen at bh;omega) (V.grow bp)
  rw[←E]at M
  have bb:=grownCap_ge w (rows.length+ys.length) cap e
  have an:=grownCap_le_maxLen w (rows.length+ys.length) cap e bh
  generalize grownCap w (rows.length+ys.length) cap e=c2 at M bb an
  let C:Array Value:=(D++F).toArray++Builtin.zeroCells zv.cells (c2-(rows.length+ys.length))
  have bk:C.size=c2*i.size:=by
   simp only[C,Array.size_append,size_toArray,length_append,dd,bs,size_zeroCells,e2,←Nat.add_mul]
   congr 1;omega
  have bi:w.heap.size∉(σ.erase g++ρ:Store).keys:=λO=>by
   rw[az]at O
   rcases mem_append.1 O with O|O
   ·exact Nat.lt_irrefl _ (hS.lt_left (ct (bV σ g).1 O))
   ·exact Nat.lt_irrefl _ (hS.key_lt (by rw[az];exact mem_append.2 (.inr O)))
  have d0:w.heap.size∉(σ.erase g).keys:=λO=>bi (by rw[az];exact mem_append.2 (.inl O))
  have ac:=hK (some w.heap.size) (λh=>by cases h) (λb hb=>by cases hb;exact d0)
  have s1:Sat G (σ.erase g++ρ) w:=hS.subN (bV σ g)
  have s2:Sat G (σ.erase g++ρ) w.drew:=s1.step Ev.drew s1.nodup_left (λb hb=>.inl hb) (λb q hq=>(s1.obj b q (mem_append.2 (.inl hq))).keep Ev.drew rfl)
  have cp:Ev σ w (σ.erase g) w.drew:=(Ev.of_sub (bV σ g).1 w).trans Ev.drew
  have e6:w.drew.heap.size=w.heap.size:=rfl
  have cw:Ev (σ.erase g) w.drew ((w.heap.size,.tok e ((rows++ys).length*i.size))::σ.erase g) (w.drew.alloc (.cells C e)):=Ev.alloc (σ:=σ.erase g) (w:=w.drew) _ _
  have ev:=cp.trans cw
  have I:(rows++ys).length=rows.length+ys.length:=by simp
  have s3:Sat G (((w.heap.size,.tok e ((rows++ys).length*i.size))::σ.erase g)++ρ) (w.drew.alloc (.cells C e)):=s2.alloc _ _ ⟨C,heap_alloc_new w.drew _,by rw[bk,I];exact Nat.mul_le_mul_right _ bb,by
   intro v E
   simp only[C,Array.toList_append,mem_append]at E
   rcases E with(E|E)|E
   ·exact bu v E
   ·exact J.one v E
   ·exact e0 _ (cv E)⟩
  refine⟨_,_,_,_,M,ac,s3,ev,?_⟩
  have al:=ge (τ:=σ.erase g++ρ) (w2:=w.drew.alloc (.cells C e)) (B:=w.heap.size) (cap:=c2) (e:=e) (sz:=i.size) (rows:=rows++ys) (C:=C) (vs:=D++F) bi (heap_alloc_new w.drew _) (by rw[I];exact bb) an bk
   (λr M=>by rcases mem_append.1 M with M|M<;>first|exact aw r M|exact cm r M)
   (by rw[flatten_append];exact RepL.append (RepL.ev ev _ _ dl) (RepL.ev ev _ _ bx))
   (λv E=>by rcases mem_append.1 E with E|E<;>first|exact bu v E|exact J.one v E)
   (λj hj=>by
    simp only[C,Array.toList_append]
    rw[getElem?_append_left (by simpa using hj)])
  rw[show Value.slice (some ⟨w.heap.size,0,none⟩) (rows++ys).length c2=Value.slice (some ⟨w.heap.size,0,none⟩) (rows.length+ys.length) c2 by rw[I]]at al
  exact al
 cases g with
 |none=>
  simp only[Rep]at hx
  obtain⟨hx,rfl⟩:=hx
  by_cases O:ys.length=0
  ·have ds:ys=[]:=eq_nil_of_length_eq_zero O
   subst ds
   have ac:=hK none (λ_=>by simp) (λb hb=>by cases hb)
   have M:=dW (P:=P) (ty:=ty) hu hi J
   rw[←hx]at M
   exact⟨_,_,_,_,M,ac,hS,Ev.refl σ w,by simp only[Rep];exact⟨hx,by simp⟩⟩
  ·refine grow none 0 [] hx (by simp) (by simp[RepL]) (by simp) (by simp) (by simp[Builtin.firstCells]) (by simp;omega) ?_
   exact X
 |some b=>
  have e7:=hx
  simp only[Rep]at hx
  obtain⟨cap,E,e5,an,Y,ah⟩:=hx
  have O:=Store.get_mem (ch b rfl)
  obtain⟨vs,hh,bo⟩:=hS.obj b _ (mem_append.2 (.inl O))
  have be:vs.size=cap*i.size:=by simp[World.shape?,hh]at Y;exact Y
  obtain⟨D,l1,l2,l3,l4⟩:=ah.vals
  obtain⟨_,_,aw⟩:=ah.flat
  have bw:D=vs.toList.take (rows.length*i.size):=by
   apply ext_getElem?
   intro j
   by_cases hj:j<rows.length*i.size
   ·have bn:j<D.length:=by omega
    have:=l4 j D[j] (getElem?_eq_getElem bn)
    rw[add_lit,Nat.zero_add,cell_of_row w b j vs e (0,0) hh]at this
    rw[getElem?_eq_getElem bn,getElem?_take,if_pos hj,←this]
    simp
   ·rw[getElem?_eq_none (by omega),getElem?_take,if_neg hj]
  by_cases N:rows.length+ys.length<=cap
  ·have bl:rows.length*i.size+F.length<=vs.size:=by rw[be,bs,←Nat.add_mul];exact Nat.mul_le_mul_right _ N
   have M:=dX (P:=P) (ty:=ty) hu hi hh J N bl
   rw[←E]at M
   let new:Array Value:=(vs.toList.take (rows.length*i.size)++F++vs.toList.drop (rows.length*i.size+F.length)).toArray
   have bd:new.size=vs.size:=by simp[new];omega
   have ac:=hK (some b) (λh=>by cases h) (λb' d1=>by cases d1;exact cx σ b)
   have I:(rows++ys).length=rows.length+ys.length:=by simp
   have ev:Ev σ w ((b,.tok e ((rows++ys).length*i.size))::σ.erase (some b)) (w.setRow b new):=Ev.tokRow O hh bd (by rw[I,Nat.add_mul];omega) (λj hj=>by
    simp only[new]
    rw[←Array.getElem?_toList,←Array.getElem?_toList]
    simp only
    rw[getElem?_append_left (by simp;omega),getElem?_append_left (by simp;omega),getElem?_take,if_pos hj])
   have d3:b∉(σ.erase (some b)++ρ:Store).keys:=λZ=>by
    rw[az]at Z
    rcases mem_append.1 Z with Z|Z
    ·exact cx σ b Z
    ·have bq:=hS.nodup
     rw[az]at bq
     exact(nodup_append.1 bq).2.2 b (mem_map.2 ⟨_,O,rfl⟩) b Z rfl
   have ba:=setRow_heap w b vs new e (0,0) hh
   have s3:Sat G (((b,.tok e ((rows++ys).length*i.size))::σ.erase (some b))++ρ) (w.setRow b new):=by
    refine hS.step ev ?_ ?_ ?_
    ·simp only[Store.keys,map_cons,nodup_cons]
     exact⟨cx σ b,(bV σ (some b)).2 hS.nodup_left⟩
    ·intro k hk
     simp only[Store.keys,map_cons,mem_cons]at hk
     rcases hk with rfl|hk
     ·exact .inl (mem_map.2 ⟨_,O,rfl⟩)
     ·exact .inl (ct (bV σ (some b)).1 hk)
    ·intro k q hq
     rcases mem_cons.1 hq with hq|hq
     ·cases hq
      exact⟨new,ba,by rw[bd,be,I];exact Nat.mul_le_mul_right _ N,by
       intro v E
       simp only[new,mem_append]at E
       rcases E with(E|E)|E
       ·exact bo.2 v (mem_of_mem_take E)
       ·exact J.one v E
       ·exact bo.2 v (mem_of_mem_drop E)⟩
     ·have dc:k≠b:=λe=>by subst e;exact cx σ k (mem_map.2 ⟨(k,q),hq,rfl⟩)
      exact(hS.obj k q (mem_append.2 (.inl ((bV σ (some b)).1 _ hq)))).keep ev (setRow_other w b k new dc)
   refine⟨_,_,_,_,M,ac,s3,ev,?_⟩
   have al:=ge (τ:=σ.erase (some b)++ρ) (w2:=w.setRow b new) (B:=b) (cap:=cap) (e:=e) (sz:=i.size) (rows:=rows++ys) (C:=new) (vs:=D++F) d3 ba (by rw[I];exact N) an (by rw[bd,be])
    (λr M=>by rcases mem_append.1 M with M|M<;>first|exact aw r M|exact cm r M)
    (by rw[flatten_append];exact RepL.append (RepL.ev ev _ _ l2) (RepL.ev ev _ _ bx))
    (λv E=>by rcases mem_append.1 E with E|E<;>first|exact l3 v E|exact J.one v E)
    (λj hj=>by
     simp only[new]
     rw[bw]at hj ⊢
     rw[getElem?_append_left hj])
   rw[show Value.slice (some ⟨b,0,none⟩) (rows++ys).length cap=Value.slice (some ⟨b,0,none⟩) (rows.length+ys.length) cap by rw[I]]at al
   exact al
  ·refine grow (some ⟨b,0,none⟩) cap D E l1 l2 l3 aw (run_firstCells_some w.drew i.size rows.length _ _ _ D l1 (by simpa using l4)) (by omega) ?_
   exact X
theorem e_append0 {t tx e e':TypeId} {i:TypeInfo} {z:List AV} {x y:Operand} {rest:Call} (ho:o.op= .call rest) (hc:rest.callee= .builtin .append) (D:rest.args=#[x,y]) (M:rest.argTypes=#[t,tx])
  (hu:P.underlying t=some (.slice e)) (hk:P.underlying tx=some (.slice e')) (hi:P.info? e=some i) (hz:cK P e=some z) (ah:z.length=i.size) (I:i.size≠0) (O:i.bytes≠0)
  (N:Sat G (σ++ρ) w) (hE:∀j,Rep (σ++ρ) w (env.get j) (a.tmps.getD j undef))
  (h:ownX e i.size ((SOpd.of x).eval G env) λg rows=>srcX i.size ((SOpd.of y).eval G env) λys=>appX0 e i.size i.bytes σ g rows ys K) (hn:Goes G σ ρ w a o K next):o.wp P a w next Q:=by
 have F:=ao (G:=G) N hE x
 have hy:=ao (G:=G) N hE y
 have X:∀{u v:Value} {w':World},(Builtin.append_ #[t,tx] o.type #[a.eval x,a.eval y]).run P w= .ok v w'->(execOp a.eval o).run P w= .ok (.value v) w':=by
  intro u v w' Y
  obtain⟨callee,args,argTypes⟩:=rest
  simp only at hc D M
  subst hc D M
  simp[execOp,ho,resolve,invoke,builtin,Y]
 have E:∀(g:Option Nat) (rows:List (List AV)),Rep (σ++ρ) w (.own g e i.size rows) (a.eval x)->(srcX i.size ((SOpd.of y).eval G env) λys=>appX0 e i.size i.bytes σ g rows ys K)->o.wp P a w next Q:=by
  intro g rows F h
  obtain⟨ys,al,hA,J,Z,ac⟩:=srcX_ok hk hy h
  obtain⟨v,w',r,σ',Y,V,s3,ev,rep⟩:=qI (ty:=o.type) hu hi hz ah I O N F J Z ac hA
  exact bF (X (u:=.nilFunc) Y) (hn _ _ _ _ V s3 ev rep)
 unfold ownX at h
 split at h
 ·rename_i T
  rw[T]at F
  simp only[Rep]at F
  exact E none [] (by simp only[Rep];exact⟨F,trivial⟩) h
 ·rename_i g e2 an rows T
  obtain⟨rfl,rfl,h⟩:=h
  rw[T]at F
  exact E g rows F h
 ·exact h.elim
theorem e_append {t O e e':TypeId} {i:TypeInfo} {z:List AV} {x y:Operand} {rest:Call} (ho:o.op= .call rest) (Y:rest.callee= .builtin .append) (E:rest.args=#[x,y]) (M:rest.argTypes=#[t,O])
  (hu:P.underlying t=some (.slice e)) (Z:P.underlying O=some (.slice e')) (hi:P.info? e=some i) (hz:cK P e=some z) (N:z.length=i.size) (I:i.size≠0) (J:i.bytes≠0)
  (X:Sat G (σ++ρ) w) (T:∀j,Rep (σ++ρ) w (env.get j) (a.tmps.getD j undef))
  (h:ownX e i.size ((SOpd.of x).eval G env) λg rows=>srcX i.size ((SOpd.of y).eval G env) λys=>appX e i.size i.bytes σ g rows ys K) (hn:Goes G σ ρ w a o K next):o.wp P a w next Q:=by
 refine e_append0 (K:=λr σ'=>∃D:Store,(Sub D σ'/\(σ'.keys.Nodup->D.keys.Nodup))/\K r D) ho Y E M hu Z hi hz N I J X T h ?_
 rintro v r σ' w' ⟨D,hs,V⟩ sat ev rep
 have F:SubN D σ':=hs
 exact hn v r D w' V (sat.subN F) (ev.trans (Ev.of_sub F.1 _)) (Rep.ev (Ev.of_sub F.1 _) _ _ rep)
end
theorem Ev.frame {σ σf σr σ':Store} {w w':World} (h:Ev σf w σ' w') (E:Sub (σf++σr) σ):Ev σ w (σ'++σr) w' where
 os:=h.os
 tape:=h.tape
 output:=h.output
 size:=h.size
 block b hb hn:=by
  have F:b∉σf.keys:=λD=>hn (ct (σ:=σ) (σ':=σf++σr) E (by rw[az];exact mem_append.2 (.inl D)))
  have I:b∉σr.keys:=λD=>hn (ct (σ:=σ) (σ':=σf++σr) E (by rw[az];exact mem_append.2 (.inr D)))
  obtain⟨k1,J⟩:=h.block b hb F
  exact⟨k1,λD=>by rw[az]at D;exact(mem_append.1 D).elim J I⟩
 shape:=h.shape
 cell a v hv D:=by
  have F:¬Mut σf a.block a.off:=λm=>D (Mut.sub E (Mut.append.2 (.inl m)))
  have I:¬Mut σr a.block a.off:=λm=>D (Mut.sub E (Mut.append.2 (.inr m)))
  obtain⟨k1,J⟩:=h.cell a v hv F
  exact⟨k1,λm=>(Mut.append.1 m).elim J I⟩
section
variable {G:Glob} {P:Program} {σ ρ:Store} {w:World} {env:Env} {a:Act} {o:Oper} {K:AV->Store->Prop} {next:Act->World->Prop} {Q:Exit->Act->World->Prop}
theorem iv {k:FuncId} {fn:Func} (I:P.funcs[k]? =some fn) (J:(fn.name== "runtime.NumGoroutine")=false) (F:fn.body.isNone=false) (args:Array Value) (w':World):
  (callFunc k args).run P w'= .ok (.enter k args) w':=by
 have E:¬fn.name= "runtime.NumGoroutine" :=by simpa using J
 have D:¬fn.body=none:=by intro e;simp[e]at F
 simp[callFunc,I,E,D]
theorem run_call {c:Call} {f:Operand} {k:FuncId} {first cap:Array Value} {fn:Func} (J:o.op= .call c) (D:c.callee= .value f) (M:a.eval f= .func (.func k) first cap)
  (F:P.funcs[k]? =some fn) (I:(fn.name== "runtime.NumGoroutine")=false) (E:fn.body.isNone=false) (w':World):
  (execOp a.eval o).run P w'= .ok (.enter k (first++c.args.map a.eval++cap)) w':=by
 obtain⟨callee,args,argTypes⟩:=c
 simp only at D
 subst D
 simp[execOp,J,resolve,M,Deferred.ofValue,invoke,iv F I E]
theorem lP {first cap:Array Value} {args:Array Operand} {D:List AV} {τ:Store} (I:Sat G τ w) (F:∀j,Rep τ w (env.get j) (a.tmps.getD j undef)) (E:ax ((args.toList.map SOpd.of).map (·.eval G env)) D):
  RepL τ w (first.toList.map AV.ofValue++D++cap.toList.map AV.ofValue) (first++args.map a.eval++cap).toList:=by
 simp only[Array.toList_append,Array.toList_map]
 exact RepL.append (RepL.append (RepL.ofValues τ w _) (E.rep (lB I F _))) (RepL.ofValues τ w _)
theorem e_callF {k:FuncId} {first cap:Array Value} {args:Array Operand} (O:∀w',(execOp a.eval o).run P w'=(callFunc k (first++args.map a.eval++cap)).run P w')
  (hS:Sat G (σ++ρ) w) (hE:∀j,Rep (σ++ρ) w (env.get j) (a.tmps.getD j undef))
  (h:kv G P (.func (.func k) first cap) ((args.toList.map SOpd.of).map (·.eval G env)) σ K) (hn:Goes G σ ρ w a o K next):o.wp P a w next Q:=by
 obtain⟨R,σf,σr,V,D,Y,E,Z,hK⟩:=h
 have N:Sat G (σf++(σr++ρ)) w:=by
  have:=hS.subN ⟨E,Z⟩
  rwa [append_assoc]at this
 have I:Sub (σf++(σr++ρ)) (σ++ρ):=by
  intro p J
  rw[←append_assoc]at J
  rcases mem_append.1 J with J|J
  ·exact mem_append.2 (.inl (E p J))
  ·exact mem_append.2 (.inr J)
 have hA:=RepL.sub I (lP (first:=first) (cap:=cap) (args:=args) hS hE Y)
 unfold Oper.wp
 rw[O]
 rcases D with⟨k',F,M,hv,⟨fn,g1,g2,g3⟩,D⟩|⟨k',F,M,hv,D⟩
 ·cases hv
  rw[iv g1 g2 g3]
  simp only[Oper.upon_enter]
  refine(D (σr++ρ) w _ N hA).mono ?_
  rintro e w' ⟨v,r,σ',rfl,X,s1,ev,T⟩
  rw[←append_assoc]at s1 T
  exact hn v r (σ'++σr) w' (hK r σ' X s1.nodup_left) s1 (ev.frame E) T
 ·cases hv
  obtain⟨v,r,σ',w',hr,X,s1,ev,T⟩:=D (σr++ρ) w _ N hA
  rw[hr]
  simp only[Oper.upon_value]
  rw[←append_assoc]at s1 T
  exact hn v r (σ'++σr) w' (hK r σ' X s1.nodup_left) s1 (ev.frame E) T
theorem kv.func {f:Value} {args:List AV} (h:kv G P f args σ K):∃k first cap,f= .func (.func k) first cap:=by
 obtain⟨_,_,_,_,⟨k,first,cap,D,_⟩|⟨k,first,cap,D,_⟩,_⟩:=h
 ·exact⟨k,first,cap,D⟩
 ·exact⟨k,first,cap,D⟩
theorem e_call {c:Call} {f:Operand} (N:o.op= .call c) (I:c.callee= .value f) (F:Sat G (σ++ρ) w) (E:∀j,Rep (σ++ρ) w (env.get j) (a.tmps.getD j undef))
  (h:scX ((SOpd.of f).eval G env) λv=>kv G P v ((c.args.toList.map SOpd.of).map (·.eval G env)) σ K) (M:Goes G σ ρ w a o K next):o.wp P a w next Q:=by
 have D:=ao (G:=G) F E f
 unfold scX at h
 split at h
 ·rename_i v J
  rw[J]at D
  simp only[Rep]at D
  obtain⟨k,first,cap,rfl⟩:=h.func
  refine e_callF (args:=c.args) (λw'=>?_) F E h M
  obtain⟨callee,args,argTypes⟩:=c
  simp only at I
  subst I
  simp[execOp,N,resolve,D,Deferred.ofValue,invoke]
 ·exact h.elim
theorem e_invoke {c:Call} {x:Operand} {name:String} (Y:o.op= .call c) (I:c.callee= .invoke x name) (F:Sat G (σ++ρ) w) (E:∀j,Rep (σ++ρ) w (env.get j) (a.tmps.getD j undef))
  (h:scX ((SOpd.of x).eval G env) λv=>AInv G P v name ((c.args.toList.map SOpd.of).map (·.eval G env)) σ K) (X:Goes G σ ρ w a o K next):o.wp P a w next Q:=by
 have D:=ao (G:=G) F E x
 unfold scX at h
 split at h
 ·rename_i v T
  rw[T]at D
  simp only[Rep]at D
  obtain⟨k,Z,V,h⟩:=h
  refine e_callF (args:=c.args) (λw'=>?_) F E h X
  obtain⟨callee,args,argTypes⟩:=c
  simp only at I
  subst I
  have J:(#[v]++args.map a.eval).extract 1 (#[v]++args.map a.eval).size=args.map a.eval:=by
   apply Array.ext'
   simp
   rw[take_of_length_le (by simp)]
  have M:(#[v]++args.map a.eval)[0]? =some v:=by rw[Array.getElem?_append_left (show 0<1 by omega)];rfl
  have N:(execOp a.eval o).run P w'=(callMethod v name (args.map a.eval)).run P w':=by
   have O:execOp a.eval o=callMethod v name (args.map a.eval):=by
    unfold execOp
    rw[Y]
    show(do let d ←resolve a.eval {callee:=.invoke x name,args:=args,argTypes:=argTypes} o.type;invoke d.target d.args)=_
    show(pure _>>=_)=_
    rw[pure_bind]
    show (do let some recv := (#[a.eval x] ++ args.map a.eval)[0]? | stuck "call: a method without a receiver"
             callMethod recv name ((#[a.eval x] ++ args.map a.eval).extract 1 (#[a.eval x] ++ args.map a.eval).size)) = _
    rw[D,M,J]
   rw[O]
  rw[N,V]
  simp
 ·exact h.elim
theorem gx {op:Op} {I:SOp} (T:o.op=op) (D:bQ P op=some I) (O:Sat G (σ++ρ) w) (X:∀j,Rep (σ++ρ) w (env.get j) (a.tmps.getD j undef)) (h:aop G P I env σ K)
  (N:Goes G σ ρ w a o K next):o.wp P a w next Q:=by
 have E:(aop G P I env σ K=aq G I env σ λr=>K r σ)->o.wp P a w next Q:=λe=>e_quiet T D O X (by rw[e]at h;exact h) N
 cases op with
 |alloc e=>
  have D:(cK P e).map (.alloc e ·)=some I:=D
  obtain⟨z,V,rfl⟩:=Option.map_eq_some_iff.1 D
  exact e_alloc T V O h N
 |box e x=>
  have D:(bj P e).map (.box e · (SOpd.of x))=some I:=D
  obtain⟨z,V,rfl⟩:=Option.map_eq_some_iff.1 D
  exact e_box T O X h N
 |store t x y=>
  have D:(bj P t).map (.store · (SOpd.of x) (SOpd.of y))=some I:=D
  obtain⟨z,V,rfl⟩:=Option.map_eq_some_iff.1 D
  exact e_store T V O X h N
 |buildSlice t len parts=>
  have D:cZ P t len parts=some I:=D
  unfold cZ at D
  split at D
  ·rename_i e hu
   split at D
   ·rename_i n z Z V
    split at D
    ·rename_i Y
     cases D
     simp at Y
     exact e_buildS T hu Z V Y.1.1 Y.1.2 Y.2 O X h N
    ·cases D
   ·cases D
  ·cases D
 |call c=>
  cases J:c.callee with
  |invoke r m=>
   have D:(match c.callee with
    | .builtin b=>bC P b c.args.toList c.argTypes.toList
    | .value f=>some (.call (SOpd.of f) (c.args.toList.map SOpd.of))
    | .invoke r name=>some (.invoke (SOpd.of r) name (c.args.toList.map SOpd.of)))=some I:=D
   rw[J]at D
   cases D
   exact e_invoke T J O X h N
  |value f=>
   have D:(match c.callee with
    | .builtin b=>bC P b c.args.toList c.argTypes.toList
    | .value f=>some (.call (SOpd.of f) (c.args.toList.map SOpd.of))
    | .invoke r name=>some (.invoke (SOpd.of r) name (c.args.toList.map SOpd.of)))=some I:=D
   rw[J]at D
   cases D
   exact e_call T J O X h N
  |builtin b=>
   have F:(match c.callee with
    | .builtin b=>bC P b c.args.toList c.argTypes.toList
    | .value f=>some (.call (SOpd.of f) (c.args.toList.map SOpd.of))
    | .invoke r name=>some (.invoke (SOpd.of r) name (c.args.toList.map SOpd.of)))=some I:=D
   rw[J]at F
   have F:bC P b c.args.toList c.argTypes.toList=some I:=F
   unfold bC at F
   split at F
   ·split at F
    ·cases F;exact E rfl
    ·cases F;exact E rfl
    ·cases F
   ·rename_i x y t tx e1 e2 _e3
    split at F
    ·rename_i e e' hu hk
     split at F
     ·rename_i i z hi V
      split at F
      ·rename_i M
       cases F
       simp at M
       exact e_append (rest:=c) T J (by apply Array.ext';simpa using e1) (by apply Array.ext';simpa using e2) hu hk hi V M.1.1 M.1.2 M.2 O X h N
      ·cases F
     ·cases F
    ·cases F
   ·cases F
 |move x=>cases D;exact E rfl
 |assign x=>cases D;exact E rfl
 |pick c x y=>cases D;exact E rfl
 |nilCheck x=>cases D;exact E rfl
 |extract x i=>cases D;exact E rfl
 |makeInterface t x=>
  have D:fj P t x=some I:=D
  unfold fj at D
  split at D
  ·cases D
  ·cases D;exact E rfl
  ·cases D
 |makeFunc fn first cap=>cases D;exact E rfl
 |load t x=>
  have D:da P t x=some I:=D
  unfold da at D
  split at D
  ·split at D
   ·cases D;exact E rfl
   ·cases D
  ·cases D
 |build t parts=>
  have D:dA P t parts=some I:=D
  unfold dA at D
  split at D
  ·split at D
   ·cases D
   obtain⟨sp,hm,rfl⟩:=Option.map_eq_some_iff.1 D
   exact E rfl
  ·cases D
 |fieldAddr t x i=>
  have D:bM P t x i=some I:=D
  unfold bM at D
  split at D
  ·split at D
   ·split at D
    ·cases D;exact E rfl
    ·cases D
   ·cases D
  ·cases D
 |indexAddr t x i=>
  have D:cY P t x i=some I:=D
  unfold cY at D
  split at D
  ·obtain⟨n,N,rfl⟩:=Option.map_eq_some_iff.1 D;exact E rfl
  ·obtain⟨n,N,rfl⟩:=Option.map_eq_some_iff.1 D;exact E rfl
  ·cases D
 |index t x i=>
  have D:dw P t x i=some I:=D
  unfold dw at D
  split at D
  ·cases D;exact E rfl
  ·cases D
 |slice t x lo hi mx=>
  cases mx with
  |some m=>cases D
  |none=>
   have D:dz P t x lo hi=some I:=D
   unfold dz at D
   split at D
   ·obtain⟨n,N,rfl⟩:=Option.map_eq_some_iff.1 D;exact E rfl
   ·cases D;exact E rfl
   ·cases D
 |field t x i=>
  have D:dE P t x i=some I:=D
  unfold dE at D
  split at D
  ·split at D
   ·split at D
    ·split at D
     ·cases D;exact E rfl
     ·cases D
    ·cases D
   ·cases D
  ·cases D
 |binOp op t x y u=>
  have D:eY P op t x y=some I:=D
  unfold eY at D
  split at D
  ·split at D
   ·cases D;exact E rfl
   ·cases D
  ·split at D
   ·cases D;exact E rfl
   ·cases D
  ·obtain⟨n,N,rfl⟩:=Option.map_eq_some_iff.1 D;exact E rfl
  ·split at D
   ·split at D
    ·cases D
    obtain⟨n,N,rfl⟩:=Option.map_eq_some_iff.1 D;exact E rfl
   ·cases D
  ·split at D
   ·obtain⟨n,N,rfl⟩:=Option.map_eq_some_iff.1 D;exact E rfl
   ·cases D
  ·cases D
 |unOp op t x=>
  cases op<;>first
   |(cases D;done)
   |(cases D;exact E rfl)
 |convert s d x=>
  have D:ee P s d x=some I:=D
  unfold ee at D
  split at D
  ·cases D;exact E rfl
  ·cases D;exact E rfl
  ·cases D
 |_=>cases D
end
end Go.Av
