/-
  ABSTRACT VALUES, 13: slices that are made and that grow.
-/
import Derived.Test.YtjdccoplpljmlaaGreatDoorVXAv12
namespace Go.Av
open Go Go.RowKit List
set_option linter.unusedSimpArgs false
set_option linter.unusedVariables false
theorem iy (z:List AV):∀(len i:Nat),i<len*z.length->(List.replicate len z).flatten[i]? =z[i % z.length]?
 |0,i,h=>by simp at h
 |len+1,i,h=>by
  rw[replicate_succ,flatten_cons,getElem?_append]
  split
  ·rename_i E;rw[Nat.mod_eq_of_lt E]
  ·rename_i E
   rw[iy z len (i-z.length) (by rw[Nat.add_mul]at h;omega)]
   rw[Nat.mod_eq_sub_mod (a:=i) (by omega)]
theorem ap {sz:Nat}:∀E:List (List AV),(∀r∈E,r.length=sz)->E.flatten.length=E.length*sz
 |[],_=>by simp
 |r::E,h=>by rw[flatten_cons,length_append,h r (by simp),ap E (λq F=>h q (mem_cons_of_mem _ F)),length_cons,Nat.add_mul];omega
theorem bR (σ:Store) (g:Option Nat):SubN (σ.erase g) σ:=by
 cases g with
 |none=>exact SubN.refl σ
 |some b=>
  refine⟨λp F=>(mem_filter.1 F).1,λE=>?_⟩
  exact List.Nodup.sublist (List.Sublist.map _ filter_sublist) E
theorem co (σ:Store) (b:Nat):b∉(σ.erase (some b)).keys:=by
 intro h
 obtain⟨p,E,e⟩:=mem_map.1 h
 have:=(mem_filter.1 E).2
 simp at this
 exact this e
theorem az.vals {τ:Store} {w:World} {E:Addr} {sz:Nat} {rows:List (List AV)} (h:az τ w E sz 0 rows):
  ∃vs:List Value,vs.length=rows.length*sz/\RepL τ w rows.flatten vs/\(∀v∈vs,v.oneCell'=true)/\∀j v,vs[j]? =some v->w.cell? (E.add j)=some v:=by
 obtain⟨F,J,_⟩:=h.flat
 rw[Nat.zero_mul]at F
 obtain⟨vs,M,I,N,O⟩:=jK F rows.flatten.length (Nat.le_refl _)
 rw[take_length]at I
 exact⟨vs,by rw[M,J],I,N,O⟩
theorem mf {τ:Store} {b k o:Nat} {e:TypeId} (E:b∉τ.keys) (J:o<k):¬Mut ((b,.tok e k)::τ) b o:=by
 rintro⟨y,I,F⟩
 rcases mem_cons.1 I with h|h
 ·cases h
  have:k<=o:=F
  omega
 ·exact E (mem_map.2 ⟨_,h,rfl⟩)
section
variable {G:Glob} {P:Program} {σ ρ:Store} {w:World} {env:Env} {a:Act} {o:Oper} {K:AV->Store->Prop} {next:Act->World->Prop} {Q:Exit->Act->World->Prop}
theorem fO {τ:Store} {w2:World} {B cap:Nat} {e:TypeId} {sz:Nat} {rows:List (List AV)} {C:Array Value} {vs:List Value} (T:B∉τ.keys) (J:w2.heap[B]? =some (.cells C e (0,0)))
  (Z:rows.length<=cap) (hm:cap<=maxLen) (hs:C.size=cap*sz) (M:∀r∈rows,r.length=sz) (N:RepL ((B,.tok e (rows.length*sz))::τ) w2 rows.flatten vs) (O:∀v∈vs,v.oneCell'=true)
  (ht:∀j,j<vs.length->C.toList[j]? =vs[j]?):Rep ((B,.tok e (rows.length*sz))::τ) w2 (.own (some B) e sz rows) (.slice (some ⟨B,0,none⟩) rows.length cap):=by
 simp only[Rep]
 refine⟨cap,rfl,Z,hm,?_,az.of_flat M ?_⟩
 ·simp[World.shape?,J,hs]
 ·have V:∀F:List (List AV),(∀r∈F,r.length=sz)->F.flatten.length=F.length*sz:=by
   intro F
   induction F with
   |nil=>intro _;simp
   |cons r F ih=>intro h;rw[flatten_cons,length_append,h r (by simp),ih (λq hq=>h q (mem_cons_of_mem _ hq)),length_cons,Nat.add_mul];omega
  have I:=ap rows M
  have ac:=N.length
  refine RepAt.of_get λj Y=>?_
  rw[Nat.zero_mul,Nat.zero_add,add_lit,Nat.zero_add]
  have E:j<vs.length:=by omega
  have X:=N.get j Y E
  refine⟨vs[j],⟨?_,?_⟩,O _ (getElem_mem E),X⟩
  ·rw[cell_of_row w2 B j C e (0,0) J]
   have:=ht j E
   rw[getElem?_eq_getElem E]at this
   simpa using this
  ·exact mf (o:=j) T (by omega)
theorem e_buildS {t e:TypeId} {len sz:Nat} {z:List AV} {parts:Array (Nat×Operand)} (ho:o.op= .buildSlice t len parts) (hu:P.underlying t=some (.slice e)) (al:aZ P e=some sz) (hz:cu P e=some z)
  (V:z.length=sz) (T:sz≠0) (be:len*sz<=16777216) (hS:Sat G (σ++ρ) w) (hE:∀j,Rep (σ++ρ) w (env.get j) (a.tmps.getD j undef))
  (h:fR G env (List.replicate len z).flatten ((parts.toList.map λ(p:Nat×Operand)=>(p.1,SOpd.of p.2)).map λp=>(p.1*sz,sz,p.2)) λcs=>
   newX σ λb=>∃rows:List (List AV),rows.length=len/\(∀r∈rows,r.length=sz)/\rows.flatten=cs/\K (.own (some b) e sz rows) ((b,.tok e (len*sz))::σ))
  (hn:Goes G σ ρ w a o K next):o.wp P a w next Q:=by
 obtain⟨i,v,hi,hv,hr,h1⟩:=cD (τ:=σ++ρ) (w:=w) hz
 have aw:=hr.length
 have bb:v.cells.size=sz:=by simp at aw;omega
 let C0:Array Value:=(Array.range (len*sz)).map (v.cells[· % v.cells.size]!)
 have M:∀k,k<len*sz->k % sz<sz:=λk _=>Nat.mod_lt _ (Nat.pos_of_ne_zero T)
 have J:(List.replicate len z).flatten.length=len*sz:=by simp[V]
 have ac:∀k,(h:k<len*sz)->C0.toList[k]? =v.cells.toList[k % sz]? :=by
  intro k I
  have:=M k I
  simp[C0,I,bb,this]
 have N:C0.toList.length=len*sz:=by simp[C0]
 have ag:RepL (σ++ρ) w (List.replicate len z).flatten C0.toList:=by
  refine RepL.of_get (by rw[N,J]) (λk I an=>?_)
  have E:k<len*sz:=by rw[J]at I;exact I
  have hm:=M k E
  have X:=ac k E
  have Y:=iy z len k (by rw[V];exact E)
  rw[V]at Y
  rw[getElem?_eq_getElem an,getElem?_eq_getElem (by simp;omega)]at X
  rw[getElem?_eq_getElem I,getElem?_eq_getElem (by omega)]at Y
  have g:=hr.get (k % sz) (by omega) (by simp;omega)
  rw[Option.some.inj X,Option.some.inj Y]
  exact g
 obtain⟨C',cs',k1,k2,k3,k4⟩:=kQ (G:=G) (λj=>some (j*sz,sz)) parts.toList _ _ C0 _ (by
  intro j p q hp hq
  simp only[getElem?_map,hp,Option.map_some,Option.some.injEq]at hq
  subst hq
  exact⟨rfl,rfl⟩) (by simp) hS hE ag (by
   intro u hu
   obtain⟨k,I,rfl⟩:=getElem_of_mem hu
   have E:k<len*sz:=by rw[N]at I;exact I
   have X:=ac k E
   rw[getElem?_eq_getElem I,getElem?_eq_getElem (by simp;have:=M k E;omega)]at X
   rw[Option.some.inj X]
   exact h1 _ (getElem_mem _)) h
 have hB:=eR hS
 obtain⟨rows,r1,r2,r3,I⟩:=k2 _ hB
 have ad:=k3.length
 have ah:(execOp a.eval o).run P w= .ok (.value (.slice (some ⟨w.heap.size,0,none⟩) len len)) (w.alloc (.cells C' e)):=by
  have hb:(Instr.buildSlice t len ((parts.map λ(x:Nat×Operand)=>(x.1,a.eval x.2)))).run P w= .ok (.slice (some ⟨w.heap.size,0,none⟩) len len) (w.alloc (.cells C' e)):=by
   have O:¬16777216<len*sz:=by omega
   have F:Instr.fill (λj=>some (j*sz,sz)) ((Array.range (len*sz)).map (v.cells[· % v.cells.size]!)) (parts.map λ(x:Nat×Operand)=>(x.1,a.eval x.2)).toList=some C':=by
    rw[Array.toList_map];exact k1
   by_cases h0:len*sz=0
   ·rw[h0]at F
    have e:(Array.range 0).map (v.cells[· % v.cells.size]!)=#[]:=by simp
    rw[e]at F
    simp only[Instr.buildSlice,Sem.run_bind,run_underlying hu,ba al,Result.andThen_ok,h0]
    have Y:(Array.range 0).map (λ_=>(default:Value))=#[]:=by apply Array.ext';simp
    rw[Array.toList_map]at F
    simp[Y,F,newRow]
   ·simp only[Instr.buildSlice,Sem.run_bind,run_underlying hu,ba al,Result.andThen_ok]
    simp[h0,O,zeroValue,typeInfo,hi,hv]
    simp at F
    simp[F,newRow]
  simp only[execOp,ho,Sem.run_bind,hb,Result.andThen_ok,Sem.run_pure]
 have Z:w.heap.size∉(σ++ρ:Store).keys:=λhm=>Nat.lt_irrefl _ (hS.key_lt hm)
 refine bH ah (hn _ _ _ _ I (hS.alloc _ _ ⟨C',heap_alloc_new w _,?_⟩) (Ev.alloc _ _) ?_)
 ·have e:cs'.length=len*sz:=by
   rw[←r3]
   rw[ap rows r2,r1]
  exact⟨by simp at ad;omega,k4⟩
 ·subst r1
  have bd:cs'.length=rows.length*sz:=by
   rw[←r3]
   exact ap rows r2
  have O:rows.length<=rows.length*sz:=Nat.le_mul_of_pos_right _ (Nat.pos_of_ne_zero T)
  refine fO (τ:=σ++ρ) (vs:=C'.toList) Z (heap_alloc_new w _) (Nat.le_refl _) (by unfold maxLen;omega) (by simp at ad;omega) r2 ?_ k4 (λj _=>rfl)
  rw[r3]
  exact RepL.ev (σ:=σ) (σ':=(w.heap.size,.tok e (rows.length*sz))::σ) (ρ:=ρ) (Ev.alloc _ _) _ _ k3
theorem ct {z:Array Value} {n:Nat} {v:Value} (h:v∈(Builtin.zeroCells z n).toList):v∈z.toList:=by
 unfold Builtin.zeroCells at h
 simp only[Array.toList_map,mem_map]at h
 obtain⟨i,hi,rfl⟩:=h
 have hi:i<n*z.size:=by simpa using hi
 have F:0<z.size:=by
  rcases Nat.eq_zero_or_pos z.size with h0|h0
  ·rw[h0]at hi;omega
  ·exact h0
 have E:=Nat.mod_lt i F
 rw[getElem!_pos z (i % z.size) E]
 simp
/-! ### append -/
theorem dU {t V ty e:TypeId} {i:TypeInfo} (Z:P.underlying t=some (.slice e)) (hi:P.info? e=some i) {b E I:Nat} {cur:Array Value} {e':TypeId} (Y:w.heap[b]? =some (.cells cur e' (0,0)))
  {x:Value} {n:Nat} {F:List Value} (O:Src P i.size V x n F w) (J:E+n<=I) (M:E*i.size+F.length<=cur.size):
  (Builtin.append_ #[t,V] ty #[.slice (some ⟨b,0,none⟩) E I,x]).run P w=
   .ok (.slice (some ⟨b,0,none⟩) (E+n) I) (w.setRow b (cur.toList.take (E*i.size)++F++cur.toList.drop (E*i.size+F.length)).toArray):=by
 have N:=run_storeCells_at P b (E*i.size) e' F 0 cur w Y (by simpa using M) O.one
 simp only[Nat.add_zero]at N
 rcases O.kind with⟨X,T⟩|T<;>simp[Builtin.append_,run_underlying Z,run_underlying T,sizeOf,typeInfo,hi,O.len,J,O.cells,Addr.add_lit,N]
theorem dR {t J ty e:TypeId} {i:TypeInfo} (N:P.underlying t=some (.slice e)) (hi:P.info? e=some i) {x:Value} {E:List Value} (F:Src P i.size J x 0 E w):
  (Builtin.append_ #[t,J] ty #[.slice none 0 0,x]).run P w= .ok (.slice none 0 0) w:=by
 rcases F.kind with⟨M,I⟩|I<;>simp[Builtin.append_,run_underlying N,run_underlying I,sizeOf,typeInfo,hi,F.len,F.cells]
theorem Ev.tokRow {b k T:Nat} {e e':TypeId} {vs new:Array Value} (Z:(b,AObj.tok e k)∈σ) (X:w.heap[b]? =some (.cells vs e' (0,0))) (hs:new.size=vs.size) (ah:k<=T)
  (hp:∀j,j<k->new[j]? =vs[j]?):Ev σ w ((b,.tok e T)::σ.erase (some b)) (w.setRow b new):=by
 have E:b∈σ.keys:=mem_map.2 ⟨_,Z,rfl⟩
 refine⟨rfl,rfl,rfl,by simp,λq hq hn=>⟨setRow_other w b q new (λe=>hn (by rw[e];exact E)),?_⟩,?_,?_⟩
 ·intro h
  simp only[Store.keys,map_cons,mem_cons]at h
  rcases h with h|h
  ·exact hn (by rw[h];exact E)
  ·exact hn (cj (bR σ (some b)).1 h)
 ·intro q s I
  unfold World.shape? at*
  by_cases hq:q=b
  ·subst hq
   rw[setRow_heap w q vs new e' (0,0) X]
   rw[X]at I
   simp at I ⊢
   rw[hs];exact I
  ·rw[setRow_other w b q new hq];exact I
 ·intro F v M J
  have V:¬Mut ((b,.tok e T)::σ.erase (some b)) F.block F.off:=by
   rintro⟨y,hy,O⟩
   rcases mem_cons.1 hy with h|h
   ·have N:F.block=b:=congrArg Prod.fst h
    have ag:y= .tok e T:=congrArg Prod.snd h
    subst ag
    refine J ⟨.tok e k,by rw[N];exact Z,?_⟩
    have:T<=F.off:=O
    show k<=F.off
    omega
   ·exact J ⟨y,(bR σ (some b)).1 _ h,O⟩
  refine⟨?_,V⟩
  by_cases N:F.block=b
  ·have Y:F.off<k:=by
    rcases Nat.lt_or_ge F.off k with h|h
    ·exact h
    ·exact absurd ⟨.tok e k,by rw[N];exact Z,h⟩ J
   unfold World.cell? at*
   rw[N]at M ⊢
   rw[setRow_heap w b vs new e' (0,0) X]
   rw[X]at M
   simp only at M ⊢
   split at M
   ·cases M
   ·rename_i ac;rw[if_neg ac,hp _ Y];exact M
  ·rw[World.cell?_of_block (w:=w) (setRow_other w b F.block new N)];exact M
theorem srcX_ok {sz:Nat} {x:AV} {u:Value} {τ:Store} {KR:List (List AV)->Prop} {O e':TypeId} (X:P.underlying O=some (.slice e')) (J:Rep τ w x u) (h:srcX sz x KR):
  ∃ys E,KR ys/\Src P sz O u ys.length E w/\RepL τ w ys.flatten E/\∀r∈ys,r.length=sz:=by
 have I:∀(M:Addr) (cap:Nat) (ys:List (List AV)),u= .slice (some M) ys.length cap->az τ w M sz 0 ys->KR ys->∃ys E,KR ys/\Src P sz O u ys.length E w/\RepL τ w ys.flatten E/\∀r∈ys,r.length=sz:=by
  intro M cap ys V N T
  obtain⟨vs,Y,Z,l3,l4⟩:=N.vals
  exact⟨ys,vs,T,by rw[V];exact Src.ofSlice w X M _ cap vs Y l4 l3,Z,N.flat.2.2⟩
 have F:u= .slice none 0 0->KR []->∃ys E,KR ys/\Src P sz O u ys.length E w/\RepL τ w ys.flatten E/\∀r∈ys,r.length=sz:=λV T=>
  ⟨[],[],T,by rw[V];exact Src.ofNil w X 0,by simp[RepL],by simp⟩
 unfold srcX at h
 split at h
 ·simp only[Rep]at J;exact F J h
 ·obtain⟨rfl,h⟩:=h
  simp only[Rep]at J
  rcases J with⟨J,rfl⟩|⟨M,cap,J,_,_,N⟩
  ·exact F J h
  ·exact I M cap _ J N h
 ·rename_i g e sz' rows
  obtain⟨rfl,h⟩:=h
  cases g with
  |none=>simp only[Rep]at J;obtain⟨J,rfl⟩:=J;exact F J h
  |some b=>simp only[Rep]at J;obtain⟨cap,J,_,_,_,N⟩:=J;exact I _ cap _ J N h
 ·exact h.elim
theorem lQ (m:Nat):∀(r c:Nat),4*Builtin.growBy m r c<=max (4*c) (5*m+768)
 |0,c=>by rw[Builtin.growBy];omega
 |r+1,c=>by
  rw[Builtin.growBy]
  split
  ·omega
  ·have:=lQ m r (c+(c+768) / 4)
   omega
theorem Fits.grow {E old bytes:Nat} (h:Fits E bytes) (J:old<E):Builtin.nextslicecap E old*bytes<=281474976710656:=by
 rcases h with h|⟨M,N⟩
 ·exact growslice_fits J h
 ·unfold Builtin.nextslicecap
  split
  ·omega
  ·split
   ·have:2*old*bytes<=512*bytes:=Nat.mul_le_mul_right _ (by omega)
    omega
   ·have O:=lQ E 4 old
    have F:4*Builtin.growBy E 4 old<=5*E+768:=by omega
    have I:4*Builtin.growBy E 4 old*bytes<=(5*E+768)*bytes:=Nat.mul_le_mul_right _ F
    rw[Nat.add_mul,Nat.mul_assoc,Nat.mul_assoc 5]at I
    omega
theorem Fits.le {n bytes:Nat} (h:Fits n bytes):n*bytes<=211106232532992:=by
 rcases h with h|⟨_,h⟩<;>omega
def AppEnds (G:Glob) (P:Program) (σ ρ:Store) (w:World) (t E ty:TypeId) (xv yv:Value) (K:AV->Store->Prop):Prop:=
 ∃v w' r σ',(Builtin.append_ #[t,E] ty #[xv,yv]).run P w= .ok v w'/\K r σ'/\Sat G (σ'++ρ) w'/\Ev σ w σ' w'/\Rep (σ'++ρ) w' r v
theorem nS {t tx ty e:TypeId} {i:TypeInfo} {z:List AV} {xv yv:Value} {g:Option Nat} {rows ys:List (List AV)} {I:List Value}
  (hu:P.underlying t=some (.slice e)) (hi:P.info? e=some i) (hz:cu P e=some z) (ef:z.length=i.size) (e8:i.size≠0) (dd:i.bytes≠0)
  (hS:Sat G (σ++ρ) w) (hx:Rep (σ++ρ) w (.own g e i.size rows) xv) (M:Src P i.size tx yv ys.length I w) (cw:RepL (σ++ρ) w ys.flatten I) (d1:∀r∈ys,r.length=i.size)
  (h:appX0 e i.size i.bytes σ g rows ys K):AppEnds G P σ ρ w t tx ty xv yv K:=by
 obtain⟨i',zv,bo,e7,e5,e4⟩:=cD (τ:=σ++ρ) (w:=w) hz
 rw[hi]at bo;cases bo
 have e6:zv.cells.size=i.size:=by have:=e5.length;simp at this;omega
 obtain⟨d0,X,hK⟩:=h
 have cl:=M.newsLen
 have Y:rows.length+ys.length<=maxLen:=by
  have:=Nat.le_mul_of_pos_right (rows.length+ys.length) (Nat.pos_of_ne_zero dd)
  have:=X.le
  unfold maxLen;omega
 have grow:∀(V:Option Addr) (cap:Nat) (E:List Value),xv= .slice V rows.length cap->E.length=rows.length*i.size->RepL (σ++ρ) w rows.flatten E->(∀v∈E,v.oneCell'=true)->(∀r∈rows,r.length=i.size)->
   (Builtin.firstCells i.size rows.length (.slice V rows.length cap)).run P w.drew= .ok E.toArray w.drew->cap<rows.length+ys.length->rows.length+ys.length<=maxLen->AppEnds G P σ ρ w t tx ty xv yv K:=by
  intro V cap E F e1 e2 cm an ds bx bh
  have N:=run_append_grow_src (P:=P) w t tx ty e i zv hu hi e7 V rows.length cap E ds yv ys.length I M bx (by unfold maxLen at bh;omega) (X.grow bx)
  rw[←F]at N
  have bb:=grownCap_ge w (rows.length+ys.length) cap e
  have al:=grownCap_le_maxLen w (rows.length+ys.length) cap e bh
  generalize grownCap w (rows.length+ys.length) cap e=c2 at N bb al
  let C:Array Value:=(E++I).toArray++Builtin.zeroCells zv.cells (c2-(rows.length+ys.length))
  have bm:C.size=c2*i.size:=by
   simp only[C,Array.size_append,size_toArray,length_append,e1,cl,size_zeroCells,e6,←Nat.add_mul]
   congr 1;omega
  have bk:w.heap.size∉(σ.erase g++ρ:Store).keys:=λT=>by
   rw[aB]at T
   rcases mem_append.1 T with T|T
   ·exact Nat.lt_irrefl _ (hS.lt_left (cj (bR σ g).1 T))
   ·exact Nat.lt_irrefl _ (hS.key_lt (by rw[aB];exact mem_append.2 (.inr T)))
  have d4:w.heap.size∉(σ.erase g).keys:=λT=>bk (by rw[aB];exact mem_append.2 (.inl T))
  have ad:=hK (some w.heap.size) (λh=>by cases h) (λb hb=>by cases hb;exact d4)
  have s1:Sat G (σ.erase g++ρ) w:=hS.subN (bR σ g)
  have s2:Sat G (σ.erase g++ρ) w.drew:=s1.step Ev.drew s1.nodup_left (λb hb=>.inl hb) (λb q hq=>(s1.obj b q (mem_append.2 (.inl hq))).keep Ev.drew rfl)
  have d2:Ev σ w (σ.erase g) w.drew:=(Ev.of_sub (bR σ g).1 w).trans Ev.drew
  have ea:w.drew.heap.size=w.heap.size:=rfl
  have d3:Ev (σ.erase g) w.drew ((w.heap.size,.tok e ((rows++ys).length*i.size))::σ.erase g) (w.drew.alloc (.cells C e)):=Ev.alloc (σ:=σ.erase g) (w:=w.drew) _ _
  have ev:=d2.trans d3
  have J:(rows++ys).length=rows.length+ys.length:=by simp
  have s3:Sat G (((w.heap.size,.tok e ((rows++ys).length*i.size))::σ.erase g)++ρ) (w.drew.alloc (.cells C e)):=s2.alloc _ _ ⟨C,heap_alloc_new w.drew _,by rw[bm,J];exact Nat.mul_le_mul_right _ bb,by
   intro v F
   simp only[C,Array.toList_append,mem_append]at F
   rcases F with(F|F)|F
   ·exact cm v F
   ·exact M.one v F
   ·exact e4 _ (ct F)⟩
  refine⟨_,_,_,_,N,ad,s3,ev,?_⟩
  have ah:=fO (τ:=σ.erase g++ρ) (w2:=w.drew.alloc (.cells C e)) (B:=w.heap.size) (cap:=c2) (e:=e) (sz:=i.size) (rows:=rows++ys) (C:=C) (vs:=E++I) bk (heap_alloc_new w.drew _) (by rw[J];exact bb) al bm
   (λr N=>by rcases mem_append.1 N with N|N<;>first|exact an r N|exact d1 r N)
   (by rw[flatten_append];exact RepL.append (RepL.ev ev _ _ e2) (RepL.ev ev _ _ cw))
   (λv F=>by rcases mem_append.1 F with F|F<;>first|exact cm v F|exact M.one v F)
   (λj hj=>by
    simp only[C,Array.toList_append]
    rw[getElem?_append_left (by simpa using hj)])
  rw[show Value.slice (some ⟨w.heap.size,0,none⟩) (rows++ys).length c2=Value.slice (some ⟨w.heap.size,0,none⟩) (rows.length+ys.length) c2 by rw[J]]at ah
  exact ah
 cases g with
 |none=>
  simp only[Rep]at hx
  obtain⟨hx,rfl⟩:=hx
  by_cases T:ys.length=0
  ·have e3:ys=[]:=eq_nil_of_length_eq_zero T
   subst e3
   have ad:=hK none (λ_=>by simp) (λb hb=>by cases hb)
   have N:=dR (P:=P) (ty:=ty) hu hi M
   rw[←hx]at N
   exact⟨_,_,_,_,N,ad,hS,Ev.refl σ w,by simp only[Rep];exact⟨hx,by simp⟩⟩
  ·refine grow none 0 [] hx (by simp) (by simp[RepL]) (by simp) (by simp) (by simp[Builtin.firstCells]) (by simp;omega) ?_
   exact Y
 |some b=>
  have eb:=hx
  simp only[Rep]at hx
  obtain⟨cap,F,e9,al,Z,ag⟩:=hx
  have T:=Store.get_mem (d0 b rfl)
  obtain⟨vs,hh,bw⟩:=hS.obj b _ (mem_append.2 (.inl T))
  have be:vs.size=cap*i.size:=by simp[World.shape?,hh]at Z;exact Z
  obtain⟨E,l1,l2,l3,l4⟩:=ag.vals
  obtain⟨_,_,an⟩:=ag.flat
  have cp:E=vs.toList.take (rows.length*i.size):=by
   apply ext_getElem?
   intro j
   by_cases hj:j<rows.length*i.size
   ·have bp:j<E.length:=by omega
    have:=l4 j E[j] (getElem?_eq_getElem bp)
    rw[add_lit,Nat.zero_add,cell_of_row w b j vs e (0,0) hh]at this
    rw[getElem?_eq_getElem bp,getElem?_take,if_pos hj,←this]
    simp
   ·rw[getElem?_eq_none (by omega),getElem?_take,if_neg hj]
  by_cases O:rows.length+ys.length<=cap
  ·have bn:rows.length*i.size+I.length<=vs.size:=by rw[be,cl,←Nat.add_mul];exact Nat.mul_le_mul_right _ O
   have N:=dU (P:=P) (ty:=ty) hu hi hh M O bn
   rw[←F]at N
   let new:Array Value:=(vs.toList.take (rows.length*i.size)++I++vs.toList.drop (rows.length*i.size+I.length)).toArray
   have bd:new.size=vs.size:=by simp[new];omega
   have ad:=hK (some b) (λh=>by cases h) (λb' dc=>by cases dc;exact co σ b)
   have J:(rows++ys).length=rows.length+ys.length:=by simp
   have ev:Ev σ w ((b,.tok e ((rows++ys).length*i.size))::σ.erase (some b)) (w.setRow b new):=Ev.tokRow T hh bd (by rw[J,Nat.add_mul];omega) (λj hj=>by
    simp only[new]
    rw[←Array.getElem?_toList,←Array.getElem?_toList]
    simp only
    rw[getElem?_append_left (by simp;omega),getElem?_append_left (by simp;omega),getElem?_take,if_pos hj])
   have dl:b∉(σ.erase (some b)++ρ:Store).keys:=λac=>by
    rw[aB]at ac
    rcases mem_append.1 ac with ac|ac
    ·exact co σ b ac
    ·have ch:=hS.nodup
     rw[aB]at ch
     exact(nodup_append.1 ch).2.2 b (mem_map.2 ⟨_,T,rfl⟩) b ac rfl
   have aw:=setRow_heap w b vs new e (0,0) hh
   have s3:Sat G (((b,.tok e ((rows++ys).length*i.size))::σ.erase (some b))++ρ) (w.setRow b new):=by
    refine hS.step ev ?_ ?_ ?_
    ·simp only[Store.keys,map_cons,nodup_cons]
     exact⟨co σ b,(bR σ (some b)).2 hS.nodup_left⟩
    ·intro k hk
     simp only[Store.keys,map_cons,mem_cons]at hk
     rcases hk with rfl|hk
     ·exact .inl (mem_map.2 ⟨_,T,rfl⟩)
     ·exact .inl (cj (bR σ (some b)).1 hk)
    ·intro k q hq
     rcases mem_cons.1 hq with hq|hq
     ·cases hq
      exact⟨new,aw,by rw[bd,be,J];exact Nat.mul_le_mul_right _ O,by
       intro v F
       simp only[new,mem_append]at F
       rcases F with(F|F)|F
       ·exact bw.2 v (mem_of_mem_take F)
       ·exact M.one v F
       ·exact bw.2 v (mem_of_mem_drop F)⟩
     ·have e0:k≠b:=λe=>by subst e;exact co σ k (mem_map.2 ⟨(k,q),hq,rfl⟩)
      exact(hS.obj k q (mem_append.2 (.inl ((bR σ (some b)).1 _ hq)))).keep ev (setRow_other w b k new e0)
   refine⟨_,_,_,_,N,ad,s3,ev,?_⟩
   have ah:=fO (τ:=σ.erase (some b)++ρ) (w2:=w.setRow b new) (B:=b) (cap:=cap) (e:=e) (sz:=i.size) (rows:=rows++ys) (C:=new) (vs:=E++I) dl aw (by rw[J];exact O) al (by rw[bd,be])
    (λr N=>by rcases mem_append.1 N with N|N<;>first|exact an r N|exact d1 r N)
    (by rw[flatten_append];exact RepL.append (RepL.ev ev _ _ l2) (RepL.ev ev _ _ cw))
    (λv F=>by rcases mem_append.1 F with F|F<;>first|exact l3 v F|exact M.one v F)
    (λj hj=>by
     simp only[new]
     rw[cp]at hj ⊢
     rw[getElem?_append_left hj])
   rw[show Value.slice (some ⟨b,0,none⟩) (rows++ys).length cap=Value.slice (some ⟨b,0,none⟩) (rows.length+ys.length) cap by rw[J]]at ah
   exact ah
  ·refine grow (some ⟨b,0,none⟩) cap E F l1 l2 l3 an (run_firstCells_some w.drew i.size rows.length _ _ _ E l1 (by simpa using l4)) (by omega) ?_
   exact Y
theorem e_append0 {t tx e e':TypeId} {i:TypeInfo} {z:List AV} {x y:Operand} {rest:Call} (ho:o.op= .call rest) (hc:rest.callee= .builtin .append) (E:rest.args=#[x,y]) (N:rest.argTypes=#[t,tx])
  (hu:P.underlying t=some (.slice e)) (hk:P.underlying tx=some (.slice e')) (hi:P.info? e=some i) (hz:cu P e=some z) (ag:z.length=i.size) (J:i.size≠0) (T:i.bytes≠0)
  (O:Sat G (σ++ρ) w) (hE:∀j,Rep (σ++ρ) w (env.get j) (a.tmps.getD j undef))
  (h:ownX e i.size ((SOpd.of x).eval G env) λg rows=>srcX i.size ((SOpd.of y).eval G env) λys=>appX0 e i.size i.bytes σ g rows ys K) (hn:Goes G σ ρ w a o K next):o.wp P a w next Q:=by
 have I:=ar (G:=G) O hE x
 have hy:=ar (G:=G) O hE y
 have Y:∀{u v:Value} {w':World},(Builtin.append_ #[t,tx] o.type #[a.eval x,a.eval y]).run P w= .ok v w'->(execOp a.eval o).run P w= .ok (.value v) w':=by
  intro u v w' Z
  obtain⟨callee,args,argTypes⟩:=rest
  simp only at hc E N
  subst hc E N
  simp[execOp,ho,resolve,invoke,builtin,Z]
 have F:∀(g:Option Nat) (rows:List (List AV)),Rep (σ++ρ) w (.own g e i.size rows) (a.eval x)->(srcX i.size ((SOpd.of y).eval G env) λys=>appX0 e i.size i.bytes σ g rows ys K)->o.wp P a w next Q:=by
  intro g rows I h
  obtain⟨ys,ah,hA,M,ac,ad⟩:=srcX_ok hk hy h
  obtain⟨v,w',r,σ',Z,X,s3,ev,rep⟩:=nS (ty:=o.type) hu hi hz ag J T O I M ac ad hA
  exact bH (Y (u:=.nilFunc) Z) (hn _ _ _ _ X s3 ev rep)
 unfold ownX at h
 split at h
 ·rename_i V
  rw[V]at I
  simp only[Rep]at I
  exact F none [] (by simp only[Rep];exact⟨I,trivial⟩) h
 ·rename_i g e2 al rows V
  obtain⟨rfl,rfl,h⟩:=h
  rw[V]at I
  exact F g rows I h
 ·exact h.elim
theorem e_append {t T e e':TypeId} {i:TypeInfo} {z:List AV} {x y:Operand} {rest:Call} (ho:o.op= .call rest) (Z:rest.callee= .builtin .append) (F:rest.args=#[x,y]) (N:rest.argTypes=#[t,T])
  (hu:P.underlying t=some (.slice e)) (hk:P.underlying T=some (.slice e')) (hi:P.info? e=some i) (hz:cu P e=some z) (O:z.length=i.size) (J:i.size≠0) (M:i.bytes≠0)
  (Y:Sat G (σ++ρ) w) (V:∀j,Rep (σ++ρ) w (env.get j) (a.tmps.getD j undef))
  (h:ownX e i.size ((SOpd.of x).eval G env) λg rows=>srcX i.size ((SOpd.of y).eval G env) λys=>appX e i.size i.bytes σ g rows ys K) (hn:Goes G σ ρ w a o K next):o.wp P a w next Q:=by
 refine e_append0 (K:=λr σ'=>∃E:Store,(Sub E σ'/\(σ'.keys.Nodup->E.keys.Nodup))/\K r E) ho Z F N hu hk hi hz O J M Y V h ?_
 rintro v r σ' w' ⟨E,hs,X⟩ sat ev rep
 have I:SubN E σ':=hs
 exact hn v r E w' X (sat.subN I) (ev.trans (Ev.of_sub I.1 _)) (Rep.ev (Ev.of_sub I.1 _) _ _ rep)
end
end Go.Av
