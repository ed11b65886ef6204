/-
  ABSTRACT VALUES, 13: slices that are made and that grow.
-/
import Derived.Test.YtppjieiiibgagaaGreatDoorQXAv11toXAv12
import Derived.Deep.LoopGhost
set_option linter.all false
namespace Go.Av
open Go Go.RowKit List
def jJ (z:List AV):∀(len i:Nat),i<len*z.length->(List.replicate len z).flatten[i]? =z[i % z.length]?
 |0,i,h=>by simp at h
 |len+1,i,h=>by
  rw[replicate_succ,flatten_cons,getElem?_append];split
  ·rename_i D;rw[Nat.mod_eq_of_lt D]
  ·rename_i D;rw[jJ z len (i-z.length) (by rw[Nat.add_mul]at h;omega)];rw[Nat.mod_eq_sub_mod (a:=i) (by omega)]
def az {sz:Nat}:∀D:List (List AV),(∀r∈D,r.length=sz)->D.flatten.length=D.length*sz
 |[],_=>by simp
 |r::D,h=>by rw[flatten_cons,length_append,h r (by simp),az D (λq E=>h q (mem_cons_of_mem _ E)),length_cons,Nat.add_mul];omega
def cq (σ:Store) (g:Option Nat):SubN (σ.erase g) σ:=by
 cases g with
 |none=>exact SubN.refl σ
 |some b=>
  refine⟨λp E=>(mem_filter.1 E).1,λD=>?_⟩;exact List.Nodup.sublist (List.Sublist.map _ filter_sublist) D
def cY (σ:Store) (b:Nat):b∉(σ.erase (some b)).keys:=by
 intro h;obtain⟨p,D,e⟩:=mem_map.1 h;have:=(mem_filter.1 D).2;simp at this;exact this e
def aA.vals {τ:Store} {w:World} {D:Addr} {sz:Nat} {rows:List (List AV)} (h:aA τ w D sz 0 rows):
  ∃vs:List Value,vs.length=rows.length*sz/\RepL τ w rows.flatten vs/\(∀v∈vs,v.oneCell'=true)/\∀j v,vs[j]? =some v->w.cell? (D.add j)=some v:=by
 obtain⟨E,I,_⟩:=h.flat
 rw[Nat.zero_mul]at E
 obtain⟨vs,J,F,M,N⟩:=jR E rows.flatten.length (Nat.le_refl _)
 rw[take_length]at F
 exact⟨vs,by rw[J,I],F,M,N⟩
def nU {τ:Store} {b k o:Nat} {e:TypeId} (D:b∉τ.keys) (I:o<k):¬Mut ((b,.tok e k)::τ) b o:=by
 rintro⟨y,F,E⟩
 rcases mem_cons.1 F with h|h
 ·cases h
  have:k<=o:=E;omega
 ·exact D (mem_map.2 ⟨_,h,rfl⟩)
section
variable {G:Glob} {P:Program} {σ ρ:Store} {w:World} {env:Env} {a:Act} {o:Oper} {K:AV->Store->Prop} {next:Act->World->Prop} {Q:Exit->Act->World->Prop}
def gX {τ:Store} {w2:World} {B cap:Nat} {e:TypeId} {sz:Nat} {rows:List (List AV)} {C:Array Value} {vs:List Value} (O:B∉τ.keys) (I:w2.heap[B]? =some (.cells C e (0,0)))
  (Y:rows.length<=cap) (Z:cap<=maxLen) (hs:C.size=cap*sz) (J:∀r∈rows,r.length=sz) (M:RepL ((B,.tok e (rows.length*sz))::τ) w2 rows.flatten vs) (N:∀v∈vs,v.oneCell'=true)
  (ht:∀j,j<vs.length->C.toList[j]? =vs[j]?):Rep ((B,.tok e (rows.length*sz))::τ) w2 (.own (some B) e sz rows) (.slice (some ⟨B,0,none⟩) rows.length cap):=by
 simp only[Rep]
 refine⟨cap,rfl,Y,Z,?_,sP J ?_⟩
 ·simp[World.shape?,I,hs]
 ·have T:∀E:List (List AV),(∀r∈E,r.length=sz)->E.flatten.length=E.length*sz:=by
   intro E
   induction E with
   |nil=>intro _;simp
   |cons r E ih=>intro h;rw[flatten_cons,length_append,h r (by simp),ih (λq hq=>h q (mem_cons_of_mem _ hq)),length_cons,Nat.add_mul];omega
  have F:=az rows J;have aa:=M.length;refine rP λj X=>?_;rw[Nat.zero_mul,Nat.zero_add,add_lit,Nat.zero_add]
  have D:j<vs.length:=by omega
  have V:=M.get j X D;refine⟨vs[j],⟨?_,?_⟩,N _ (getElem_mem D),V⟩
  ·rw[cell_of_row w2 B j C e (0,0) I];have:=ht j D;rw[getElem?_eq_getElem D]at this;simpa using this
  ·exact nU (o:=j) O (by omega)
def e_buildS {t e:TypeId} {len sz:Nat} {z:List AV} {parts:Array (Nat×Operand)} (ho:o.op= .buildSlice t len parts) (hu:P.underlying t=some (.slice e)) (ah:bC P e=some sz) (hz:da P e=some z)
  (T:z.length=sz) (O:sz≠0) (bd:len*sz<=16777216) (hS:Sat G (σ++ρ) w) (hE:∀j,Rep (σ++ρ) w (env.get j) (a.tmps.getD j undef))
  (h:g7 G env (List.replicate len z).flatten ((parts.toList.map λ(p:Nat×Operand)=>(p.1,SOpd.of p.2)).map λp=>(p.1*sz,sz,p.2)) λcs=>
   newX σ λb=>∃rows:List (List AV),rows.length=len/\(∀r∈rows,r.length=sz)/\rows.flatten=cs/\K (.own (some b) e sz rows) ((b,.tok e (len*sz))::σ))
  (hn:Goes G σ ρ w a o K next):o.wp P a w next Q:=by
 obtain⟨i,v,hi,hv,hr,h1⟩:=dz (τ:=σ++ρ) (w:=w) hz
 have an:=hr.length
 have aw:v.cells.size=sz:=by simp at an;omega
 let C0:Array Value:=(Array.range (len*sz)).map (v.cells[· % v.cells.size]!)
 have J:∀k,k<len*sz->k % sz<sz:=λk _=>Nat.mod_lt _ (Nat.pos_of_ne_zero O)
 have I:(List.replicate len z).flatten.length=len*sz:=by simp[T]
 have Z:∀k,(h:k<len*sz)->C0.toList[k]? =v.cells.toList[k % sz]? :=by
  intro k F;have:=J k F;simp[C0,F,aw,this]
 have M:C0.toList.length=len*sz:=by simp[C0]
 have ac:RepL (σ++ρ) w (List.replicate len z).flatten C0.toList:=by
  refine tM (by rw[M,I]) (λk F al=>?_)
  have D:k<len*sz:=by rw[I]at F;exact F
  have hm:=J k D;have V:=Z k D;have X:=jJ z len k (by rw[T];exact D);rw[T]at X;rw[getElem?_eq_getElem al,getElem?_eq_getElem (by simp;omega)]at V;rw[getElem?_eq_getElem F,getElem?_eq_getElem (by omega)]at X;have g:=hr.get (k % sz) (by omega) (by simp;omega);rw[Option.some.inj V,Option.some.inj X];exact g
 obtain⟨C',cs',k1,k2,k3,k4⟩:=lG (G:=G) (λj=>some (j*sz,sz)) parts.toList _ _ C0 _ (by
  intro j p q hp hq
  simp only[getElem?_map,hp,Option.map_some,Option.some.injEq]at hq
  subst hq
  exact⟨rfl,rfl⟩) (by simp) hS hE ac (by
   intro u hu
   obtain⟨k,F,rfl⟩:=getElem_of_mem hu
   have D:k<len*sz:=by rw[M]at F;exact F
   have V:=Z k D
   rw[getElem?_eq_getElem F,getElem?_eq_getElem (by simp;have:=J k D;omega)]at V
   rw[Option.some.inj V]
   exact h1 _ (getElem_mem _)) h
 have hB:=ge hS
 obtain⟨rows,r1,r2,r3,F⟩:=k2 _ hB
 have aa:=k3.length
 have ad:(execOp a.eval o).run P w= .ok (.value (.slice (some ⟨w.heap.size,0,none⟩) len len)) (w.alloc (.cells C' e)):=by
  have hb:(Instr.buildSlice t len ((parts.map λ(x:Nat×Operand)=>(x.1,a.eval x.2)))).run P w= .ok (.slice (some ⟨w.heap.size,0,none⟩) len len) (w.alloc (.cells C' e)):=by
   have N:¬16777216<len*sz:=by omega
   have E:Instr.fill (λj=>some (j*sz,sz)) ((Array.range (len*sz)).map (v.cells[· % v.cells.size]!)) (parts.map λ(x:Nat×Operand)=>(x.1,a.eval x.2)).toList=some C':=by
    rw[Array.toList_map];exact k1
   by_cases h0:len*sz=0
   ·rw[h0]at E
    have e:(Array.range 0).map (v.cells[· % v.cells.size]!)=#[]:=by simp
    rw[e]at E;simp only[Instr.buildSlice,Sem.run_bind,run_underlying hu,bF ah,Result.andThen_ok,h0]
    have X:(Array.range 0).map (λ_=>(default:Value))=#[]:=by apply Array.ext';simp
    rw[Array.toList_map]at E;simp[X,E,newRow]
   ·simp only[Instr.buildSlice,Sem.run_bind,run_underlying hu,bF ah,Result.andThen_ok];simp[h0,N,zeroValue,typeInfo,hi,hv];simp at E;simp[E,newRow]
  simp only[execOp,ho,Sem.run_bind,hb,Result.andThen_ok,Sem.run_pure]
 have Y:w.heap.size∉(σ++ρ:Store).keys:=λhm=>Nat.lt_irrefl _ (hS.key_lt hm)
 refine ca ad (hn _ _ _ _ F (hS.alloc _ _ ⟨C',heap_alloc_new w _,?_⟩) (Ev.alloc _ _) ?_)
 ·have e:cs'.length=len*sz:=by
   rw[←r3];rw[az rows r2,r1]
  exact⟨by simp at aa;omega,k4⟩
 ·subst r1
  have bb:cs'.length=rows.length*sz:=by
   rw[←r3];exact az rows r2
  have N:rows.length<=rows.length*sz:=Nat.le_mul_of_pos_right _ (Nat.pos_of_ne_zero O);refine gX (τ:=σ++ρ) (vs:=C'.toList) Y (heap_alloc_new w _) (Nat.le_refl _) (by unfold maxLen;omega) (by simp at aa;omega) r2 ?_ k4 (λj _=>rfl);rw[r3];exact RepL.ev (σ:=σ) (σ':=(w.heap.size,.tok e (rows.length*sz))::σ) (ρ:=ρ) (Ev.alloc _ _) _ _ k3
def cX {z:Array Value} {n:Nat} {v:Value} (h:v∈(Builtin.zeroCells z n).toList):v∈z.toList:=by
 unfold Builtin.zeroCells at h;simp only[Array.toList_map,mem_map]at h;obtain⟨i,hi,rfl⟩:=h
 have hi:i<n*z.size:=by simpa using hi
 have E:0<z.size:=by
  rcases Nat.eq_zero_or_pos z.size with h0|h0
  ·rw[h0]at hi;omega
  ·exact h0
 have D:=Nat.mod_lt i E;rw[getElem!_pos z (i % z.size) D];simp
/-! ### append -/
def eR {t V ty e:TypeId} {i:TypeInfo} (Z:P.underlying t=some (.slice e)) (hi:P.info? e=some i) {b D I:Nat} {F:Array Value} {e':TypeId} (Y:w.heap[b]? =some (.cells F e' (0,0)))
  {x:Value} {n:Nat} {E:List Value} (O:Src P i.size V x n E w) (J:D+n<=I) (M:D*i.size+E.length<=F.size):
  (Builtin.append_ #[t,V] ty #[.slice (some ⟨b,0,none⟩) D I,x]).run P w=
   .ok (.slice (some ⟨b,0,none⟩) (D+n) I) (w.setRow b (F.toList.take (D*i.size)++E++F.toList.drop (D*i.size+E.length)).toArray):=by
 have N:=run_storeCells_at P b (D*i.size) e' E 0 F w Y (by simpa using M) O.one
 simp only[Nat.add_zero]at N
 rcases O.kind with⟨X,T⟩|T<;>simp[Builtin.append_,run_underlying Z,run_underlying T,sizeOf,typeInfo,hi,O.len,J,O.cells,Addr.add_lit,N]
def eQ {t I ty e:TypeId} {i:TypeInfo} (M:P.underlying t=some (.slice e)) (hi:P.info? e=some i) {x:Value} {D:List Value} (E:Src P i.size I x 0 D w):
  (Builtin.append_ #[t,I] ty #[.slice none 0 0,x]).run P w= .ok (.slice none 0 0) w:=by
 rcases E.kind with⟨J,F⟩|F<;>simp[Builtin.append_,run_underlying M,run_underlying F,sizeOf,typeInfo,hi,E.len,E.cells]
def uL {b k O:Nat} {e e':TypeId} {vs new:Array Value} (Y:(b,AObj.tok e k)∈σ) (V:w.heap[b]? =some (.cells vs e' (0,0))) (hs:new.size=vs.size) (ah:k<=O)
  (hp:∀j,j<k->new[j]? =vs[j]?):Ev σ w ((b,.tok e O)::σ.erase (some b)) (w.setRow b new):=by
 have D:b∈σ.keys:=mem_map.2 ⟨_,Y,rfl⟩
 refine⟨rfl,rfl,rfl,by simp,λq hq Z=>⟨setRow_other w b q new (λe=>Z (by rw[e];exact D)),?_⟩,?_,?_⟩
 ·intro h
  simp only[Store.keys,map_cons,mem_cons]at h
  rcases h with h|h
  ·exact Z (by rw[h];exact D)
  ·exact Z (cV (cq σ (some b)).1 h)
 ·intro q s F
  unfold World.shape? at*;by_cases hq:q=b
  ·subst hq;rw[setRow_heap w q vs new e' (0,0) V];rw[V]at F;simp at F ⊢;rw[hs];exact F
  ·rw[setRow_other w b q new hq];exact F
 ·intro E v J I
  have T:¬Mut ((b,.tok e O)::σ.erase (some b)) E.block E.off:=by
   rintro⟨y,hy,N⟩
   rcases mem_cons.1 hy with h|h
   ·have M:E.block=b:=congrArg Prod.fst h;have ac:y= .tok e O:=congrArg Prod.snd h;subst ac;refine I ⟨.tok e k,by rw[M];exact Y,?_⟩;have:O<=E.off:=N;show k<=E.off;omega
   ·exact I ⟨y,(cq σ (some b)).1 _ h,N⟩
  refine⟨?_,T⟩;by_cases M:E.block=b
  ·have X:E.off<k:=by
    rcases Nat.lt_or_ge E.off k with h|h
    ·exact h
    ·exact absurd ⟨.tok e k,by rw[M];exact Y,h⟩ I
   unfold World.cell? at*;rw[M]at J ⊢;rw[setRow_heap w b vs new e' (0,0) V];rw[V]at J;simp only at J ⊢;split at J
   ·cases J
   ·rename_i aa;rw[if_neg aa,hp _ X];exact J
  ·rw[World.cell?_of_block (w:=w) (setRow_other w b E.block new M)];exact J
def srcX_ok {sz:Nat} {x:AV} {u:Value} {τ:Store} {KR:List (List AV)->Prop} {N e':TypeId} (V:P.underlying N=some (.slice e')) (I:Rep τ w x u) (h:srcX sz x KR):
  ∃ys D,KR ys/\Src P sz N u ys.length D w/\RepL τ w ys.flatten D/\∀r∈ys,r.length=sz:=by
 have F:∀(J:Addr) (cap:Nat) (ys:List (List AV)),u= .slice (some J) ys.length cap->aA τ w J sz 0 ys->KR ys->∃ys D,KR ys/\Src P sz N u ys.length D w/\RepL τ w ys.flatten D/\∀r∈ys,r.length=sz:=by
  intro J cap ys T M O;obtain⟨vs,X,Y,Z,l4⟩:=M.vals;exact⟨ys,vs,O,by rw[T];exact Src.ofSlice w V J _ cap vs X l4 Z,Y,M.flat.2.2⟩
 have E:u= .slice none 0 0->KR []->∃ys D,KR ys/\Src P sz N u ys.length D w/\RepL τ w ys.flatten D/\∀r∈ys,r.length=sz:=λT O=>
  ⟨[],[],O,by rw[T];exact Src.ofNil w V 0,by simp[RepL],by simp⟩
 unfold srcX at h
 split at h
 ·simp only[Rep]at I;exact E I h
 ·obtain⟨rfl,h⟩:=h
  simp only[Rep]at I
  rcases I with⟨I,rfl⟩|⟨J,cap,I,_,_,M⟩
  ·exact E I h
  ·exact F J cap _ I M h
 ·rename_i g e aa rows
  obtain⟨rfl,h⟩:=h
  cases g with
  |none=>simp only[Rep]at I;obtain⟨I,rfl⟩:=I;exact E I h
  |some b=>simp only[Rep]at I;obtain⟨cap,I,_,_,_,M⟩:=I;exact F _ cap _ I M h
 ·exact h.elim
def nb (m:Nat):∀(r c:Nat),4*Builtin.growBy m r c<=max (4*c) (5*m+768)
 |0,c=>by rw[Builtin.growBy];omega
 |r+1,c=>by
  rw[Builtin.growBy];split
  ·omega
  ·have:=nb m r (c+(c+768) / 4);omega
def Fits.grow {D old bytes:Nat} (h:Fits D bytes) (I:old<D):Builtin.nextslicecap D old*bytes<=281474976710656:=by
 rcases h with h|⟨J,M⟩
 ·exact growslice_fits I h
 ·unfold Builtin.nextslicecap;split
  ·omega
  ·split
   ·have:2*old*bytes<=512*bytes:=Nat.mul_le_mul_right _ (by omega);omega
   ·have N:=nb D 4 old
    have E:4*Builtin.growBy D 4 old<=5*D+768:=by omega
    have F:4*Builtin.growBy D 4 old*bytes<=(5*D+768)*bytes:=Nat.mul_le_mul_right _ E;rw[Nat.add_mul,Nat.mul_assoc,Nat.mul_assoc 5]at F;omega
def Fits.le {n bytes:Nat} (h:Fits n bytes):n*bytes<=211106232532992:=by
 rcases h with h|⟨_,h⟩<;>omega
def AppEnds (G:Glob) (P:Program) (σ ρ:Store) (w:World) (t D ty:TypeId) (xv yv:Value) (K:AV->Store->Prop):Prop:=
 ∃v w' r σ',(Builtin.append_ #[t,D] ty #[xv,yv]).run P w= .ok v w'/\K r σ'/\Sat G (σ'++ρ) w'/\Ev σ w σ' w'/\Rep (σ'++ρ) w' r v
def pE {t tx ty e:TypeId} {i:TypeInfo} {z:List AV} {xv yv:Value} {g:Option Nat} {rows ys:List (List AV)} {F:List Value}
  (hu:P.underlying t=some (.slice e)) (hi:P.info? e=some i) (hz:da P e=some z) (eg:z.length=i.size) (e9:i.size≠0) (dl:i.bytes≠0)
  (hS:Sat G (σ++ρ) w) (hx:Rep (σ++ρ) w (.own g e i.size rows) xv) (J:Src P i.size tx yv ys.length F w) (cw:RepL (σ++ρ) w ys.flatten F) (d1:∀r∈ys,r.length=i.size)
  (h:appX0 e i.size i.bytes σ g rows ys K):AppEnds G P σ ρ w t tx ty xv yv K:=by
 obtain⟨i',zv,bn,e8,e6,e5⟩:=dz (τ:=σ++ρ) (w:=w) hz
 rw[hi]at bn;cases bn
 have e7:zv.cells.size=i.size:=by have:=e6.length;simp at this;omega
 obtain⟨d0,V,hK⟩:=h
 have ch:=J.newsLen
 have X:rows.length+ys.length<=maxLen:=by
  have:=Nat.le_mul_of_pos_right (rows.length+ys.length) (Nat.pos_of_ne_zero dl);have:=V.le;unfold maxLen;omega
 have grow:∀(T:Option Addr) (cap:Nat) (D:List Value),xv= .slice T rows.length cap->D.length=rows.length*i.size->RepL (σ++ρ) w rows.flatten D->(∀v∈D,v.oneCell'=true)->(∀r∈rows,r.length=i.size)->
   (Builtin.firstCells i.size rows.length (.slice T rows.length cap)).run P w.drew= .ok D.toArray w.drew->cap<rows.length+ys.length->rows.length+ys.length<=maxLen->AppEnds G P σ ρ w t tx ty xv yv K:=by
  intro T cap D E e2 e3 cm al e0 bw be
  have M:=run_append_grow_src (P:=P) w t tx ty e i zv hu hi e8 T rows.length cap D e0 yv ys.length F J bw (by unfold maxLen at be;omega) (V.grow bw)
  rw[←E]at M
  have aw:=grownCap_ge w (rows.length+ys.length) cap e
  have ah:=grownCap_le_maxLen w (rows.length+ys.length) cap e be
  generalize grownCap w (rows.length+ys.length) cap e=c2 at M aw ah
  let C:Array Value:=(D++F).toArray++Builtin.zeroCells zv.cells (c2-(rows.length+ys.length))
  have bk:C.size=c2*i.size:=by
   simp only[C,Array.size_append,size_toArray,length_append,e2,ch,size_zeroCells,e7,←Nat.add_mul];congr 1;omega
  have bh:w.heap.size∉(σ.erase g++ρ:Store).keys:=λO=>by
   rw[aC]at O
   rcases mem_append.1 O with O|O
   ·exact Nat.lt_irrefl _ (hS.lt_left (cV (cq σ g).1 O))
   ·exact Nat.lt_irrefl _ (hS.key_lt (by rw[aC];exact mem_append.2 (.inr O)))
  have dc:w.heap.size∉(σ.erase g).keys:=λO=>bh (by rw[aC];exact mem_append.2 (.inl O))
  have aa:=hK (some w.heap.size) (λh=>by cases h) (λb hb=>by cases hb;exact dc)
  have s1:Sat G (σ.erase g++ρ) w:=hS.subN (cq σ g)
  have s2:Sat G (σ.erase g++ρ) w.drew:=s1.step Ev.drew s1.nodup_left (λb hb=>.inl hb) (λb q hq=>(s1.obj b q (mem_append.2 (.inl hq))).keep Ev.drew rfl)
  have d2:Ev σ w (σ.erase g) w.drew:=(rN (cq σ g).1 w).trans Ev.drew
  have eb:w.drew.heap.size=w.heap.size:=rfl
  have d3:Ev (σ.erase g) w.drew ((w.heap.size,.tok e ((rows++ys).length*i.size))::σ.erase g) (w.drew.alloc (.cells C e)):=Ev.alloc (σ:=σ.erase g) (w:=w.drew) _ _
  have ev:=d2.trans d3
  have I:(rows++ys).length=rows.length+ys.length:=by simp
  have s3:Sat G (((w.heap.size,.tok e ((rows++ys).length*i.size))::σ.erase g)++ρ) (w.drew.alloc (.cells C e)):=s2.alloc _ _ ⟨C,heap_alloc_new w.drew _,by rw[bk,I];exact Nat.mul_le_mul_right _ aw,by
   intro v E
   simp only[C,Array.toList_append,mem_append]at E
   rcases E with(E|E)|E
   ·exact cm v E
   ·exact J.one v E
   ·exact e5 _ (cX E)⟩
  refine⟨_,_,_,_,M,aa,s3,ev,?_⟩
  have ad:=gX (τ:=σ.erase g++ρ) (w2:=w.drew.alloc (.cells C e)) (B:=w.heap.size) (cap:=c2) (e:=e) (sz:=i.size) (rows:=rows++ys) (C:=C) (vs:=D++F) bh (heap_alloc_new w.drew _) (by rw[I];exact aw) ah bk
   (λr M=>by rcases mem_append.1 M with M|M<;>first|exact al r M|exact d1 r M)
   (by rw[flatten_append];exact RepL.append (RepL.ev ev _ _ e3) (RepL.ev ev _ _ cw))
   (λv E=>by rcases mem_append.1 E with E|E<;>first|exact cm v E|exact J.one v E)
   (λj hj=>by
    simp only[C,Array.toList_append]
    rw[getElem?_append_left (by simpa using hj)])
  rw[show Value.slice (some ⟨w.heap.size,0,none⟩) (rows++ys).length c2=Value.slice (some ⟨w.heap.size,0,none⟩) (rows.length+ys.length) c2 by rw[I]]at ad
  exact ad
 cases g with
 |none=>
  simp only[Rep]at hx;obtain⟨hx,rfl⟩:=hx;by_cases O:ys.length=0
  ·have e4:ys=[]:=eq_nil_of_length_eq_zero O;subst e4;have aa:=hK none (λ_=>by simp) (λb hb=>by cases hb);have M:=eQ (P:=P) (ty:=ty) hu hi J;rw[←hx]at M;exact⟨_,_,_,_,M,aa,hS,Ev.refl σ w,by simp only[Rep];exact⟨hx,by simp⟩⟩
  ·refine grow none 0 [] hx (by simp) (by simp[RepL]) (by simp) (by simp) (by simp[Builtin.firstCells]) (by simp;omega) ?_;exact X
 |some b=>
  have ef:=hx;simp only[Rep]at hx;obtain⟨cap,E,ea,ah,Y,ac⟩:=hx;have O:=rv (d0 b rfl);obtain⟨vs,hh,bs⟩:=hS.obj b _ (mem_append.2 (.inl O))
  have bd:vs.size=cap*i.size:=by simp[World.shape?,hh]at Y;exact Y
  obtain⟨D,l1,l2,l3,l4⟩:=ac.vals;obtain⟨_,_,al⟩:=ac.flat
  have cp:D=vs.toList.take (rows.length*i.size):=by
   apply ext_getElem?;intro j;by_cases hj:j<rows.length*i.size
   ·have bo:j<D.length:=by omega
    have:=l4 j D[j] (getElem?_eq_getElem bo);rw[add_lit,Nat.zero_add,cell_of_row w b j vs e (0,0) hh]at this;rw[getElem?_eq_getElem bo,getElem?_take,if_pos hj,←this];simp
   ·rw[getElem?_eq_none (by omega),getElem?_take,if_neg hj]
  by_cases N:rows.length+ys.length<=cap
  ·have bm:rows.length*i.size+F.length<=vs.size:=by rw[bd,ch,←Nat.add_mul];exact Nat.mul_le_mul_right _ N
   have M:=eR (P:=P) (ty:=ty) hu hi hh J N bm;rw[←E]at M;let new:Array Value:=(vs.toList.take (rows.length*i.size)++F++vs.toList.drop (rows.length*i.size+F.length)).toArray
   have bb:new.size=vs.size:=by simp[new];omega
   have aa:=hK (some b) (λh=>by cases h) (λb' dd=>by cases dd;exact cY σ b)
   have I:(rows++ys).length=rows.length+ys.length:=by simp
   have ev:Ev σ w ((b,.tok e ((rows++ys).length*i.size))::σ.erase (some b)) (w.setRow b new):=uL O hh bb (by rw[I,Nat.add_mul];omega) (λj hj=>by
    simp only[new]
    rw[←Array.getElem?_toList,←Array.getElem?_toList]
    simp only
    rw[getElem?_append_left (by simp;omega),getElem?_append_left (by simp;omega),getElem?_take,if_pos hj])
   have ds:b∉(σ.erase (some b)++ρ:Store).keys:=λZ=>by
    rw[aC]at Z
    rcases mem_append.1 Z with Z|Z
    ·exact cY σ b Z
    ·have bx:=hS.nodup;rw[aC]at bx;exact(nodup_append.1 bx).2.2 b (mem_map.2 ⟨_,O,rfl⟩) b Z rfl
   have an:=setRow_heap w b vs new e (0,0) hh
   have s3:Sat G (((b,.tok e ((rows++ys).length*i.size))::σ.erase (some b))++ρ) (w.setRow b new):=by
    refine hS.step ev ?_ ?_ ?_
    ·simp only[Store.keys,map_cons,nodup_cons];exact⟨cY σ b,(cq σ (some b)).2 hS.nodup_left⟩
    ·intro k hk;simp only[Store.keys,map_cons,mem_cons]at hk
     rcases hk with rfl|hk
     ·exact .inl (mem_map.2 ⟨_,O,rfl⟩)
     ·exact .inl (cV (cq σ (some b)).1 hk)
    ·intro k q hq
     rcases mem_cons.1 hq with hq|hq
     ·cases hq
      exact⟨new,an,by rw[bb,bd,I];exact Nat.mul_le_mul_right _ N,by
       intro v E
       simp only[new,mem_append]at E
       rcases E with(E|E)|E
       ·exact bs.2 v (mem_of_mem_take E)
       ·exact J.one v E
       ·exact bs.2 v (mem_of_mem_drop E)⟩
     ·have e1:k≠b:=λe=>by subst e;exact cY σ k (mem_map.2 ⟨(k,q),hq,rfl⟩)
      exact(hS.obj k q (mem_append.2 (.inl ((cq σ (some b)).1 _ hq)))).keep ev (setRow_other w b k new e1)
   refine⟨_,_,_,_,M,aa,s3,ev,?_⟩;have ad:=gX (τ:=σ.erase (some b)++ρ) (w2:=w.setRow b new) (B:=b) (cap:=cap) (e:=e) (sz:=i.size) (rows:=rows++ys) (C:=new) (vs:=D++F) ds an (by rw[I];exact N) ah (by rw[bb,bd])
    (λr M=>by rcases mem_append.1 M with M|M<;>first|exact al r M|exact d1 r M)
    (by rw[flatten_append];exact RepL.append (RepL.ev ev _ _ l2) (RepL.ev ev _ _ cw))
    (λv E=>by rcases mem_append.1 E with E|E<;>first|exact l3 v E|exact J.one v E)
    (λj hj=>by
     simp only[new]
     rw[cp]at hj ⊢
     rw[getElem?_append_left hj])
   rw[show Value.slice (some ⟨b,0,none⟩) (rows++ys).length cap=Value.slice (some ⟨b,0,none⟩) (rows.length+ys.length) cap by rw[I]]at ad;exact ad
  ·refine grow (some ⟨b,0,none⟩) cap D E l1 l2 l3 al (run_firstCells_some w.drew i.size rows.length _ _ _ D l1 (by simpa using l4)) (by omega) ?_;exact X
def e_append0 {t tx e e':TypeId} {i:TypeInfo} {z:List AV} {x y:Operand} {rest:Call} (ho:o.op= .call rest) (hc:rest.callee= .builtin .append) (D:rest.args=#[x,y]) (M:rest.argTypes=#[t,tx])
  (hu:P.underlying t=some (.slice e)) (hk:P.underlying tx=some (.slice e')) (hi:P.info? e=some i) (hz:da P e=some z) (ac:z.length=i.size) (I:i.size≠0) (O:i.bytes≠0)
  (N:Sat G (σ++ρ) w) (hE:∀j,Rep (σ++ρ) w (env.get j) (a.tmps.getD j undef))
  (h:ownX e i.size ((SOpd.of x).eval G env) λg rows=>srcX i.size ((SOpd.of y).eval G env) λys=>appX0 e i.size i.bytes σ g rows ys K) (hn:Goes G σ ρ w a o K next):o.wp P a w next Q:=by
 have F:=au (G:=G) N hE x
 have hy:=au (G:=G) N hE y
 have X:∀{u v:Value} {w':World},(Builtin.append_ #[t,tx] o.type #[a.eval x,a.eval y]).run P w= .ok v w'->(execOp a.eval o).run P w= .ok (.value v) w':=by
  intro u v w' Y;obtain⟨callee,args,argTypes⟩:=rest;simp only at hc D M;subst hc D M;simp[execOp,ho,resolve,invoke,builtin,Y]
 have E:∀(g:Option Nat) (rows:List (List AV)),Rep (σ++ρ) w (.own g e i.size rows) (a.eval x)->(srcX i.size ((SOpd.of y).eval G env) λys=>appX0 e i.size i.bytes σ g rows ys K)->o.wp P a w next Q:=by
  intro g rows F h;obtain⟨ys,ad,hA,J,Z,aa⟩:=srcX_ok hk hy h;obtain⟨v,w',r,σ',Y,V,s3,ev,rep⟩:=pE (ty:=o.type) hu hi hz ac I O N F J Z aa hA;exact ca (X (u:=.nilFunc) Y) (hn _ _ _ _ V s3 ev rep)
 unfold ownX at h
 split at h
 ·rename_i T
  rw[T]at F;simp only[Rep]at F;exact E none [] (by simp only[Rep];exact⟨F,trivial⟩) h
 ·rename_i g e2 ah rows T
  obtain⟨rfl,rfl,h⟩:=h;rw[T]at F;exact E g rows F h
 ·exact h.elim
def e_append {t O e e':TypeId} {i:TypeInfo} {z:List AV} {x y:Operand} {rest:Call} (ho:o.op= .call rest) (Y:rest.callee= .builtin .append) (E:rest.args=#[x,y]) (M:rest.argTypes=#[t,O])
  (hu:P.underlying t=some (.slice e)) (Z:P.underlying O=some (.slice e')) (hi:P.info? e=some i) (hz:da P e=some z) (N:z.length=i.size) (I:i.size≠0) (J:i.bytes≠0)
  (X:Sat G (σ++ρ) w) (T:∀j,Rep (σ++ρ) w (env.get j) (a.tmps.getD j undef))
  (h:ownX e i.size ((SOpd.of x).eval G env) λg rows=>srcX i.size ((SOpd.of y).eval G env) λys=>appX e i.size i.bytes σ g rows ys K) (hn:Goes G σ ρ w a o K next):o.wp P a w next Q:=by
 refine e_append0 (K:=λr σ'=>∃D:Store,(Sub D σ'/\(σ'.keys.Nodup->D.keys.Nodup))/\K r D) ho Y E M hu Z hi hz N I J X T h ?_
 rintro v r σ' w' ⟨D,hs,V⟩ sat ev rep
 have F:SubN D σ':=hs
 exact hn v r D w' V (sat.subN F) (ev.trans (rN F.1 _)) (Rep.ev (rN F.1 _) _ _ rep)
end
def Ev.frame {σ D σr σ':Store} {w w':World} (h:Ev D w σ' w') (F:Sub (D++σr) σ):Ev σ w (σ'++σr) w' where
 os:=h.os
 tape:=h.tape
 output:=h.output
 size:=h.size
 block b hb hn:=by
  have I:b∉D.keys:=λE=>hn (cV (σ:=σ) (σ':=D++σr) F (by rw[aC];exact mem_append.2 (.inl E)));have J:b∉σr.keys:=λE=>hn (cV (σ:=σ) (σ':=D++σr) F (by rw[aC];exact mem_append.2 (.inr E)));obtain⟨k1,M⟩:=h.block b hb I;exact⟨k1,λE=>by rw[aC]at E;exact(mem_append.1 E).elim M J⟩
 shape:=h.shape
 cell a v hv E:=by
  have I:¬Mut D a.block a.off:=λm=>E (Mut.sub F (Mut.append.2 (.inl m)));have J:¬Mut σr a.block a.off:=λm=>E (Mut.sub F (Mut.append.2 (.inr m)));obtain⟨k1,M⟩:=h.cell a v hv I;exact⟨k1,λm=>(Mut.append.1 m).elim M J⟩
section
variable {G:Glob} {P:Program} {σ ρ:Store} {w:World} {env:Env} {a:Act} {o:Oper} {K:AV->Store->Prop} {next:Act->World->Prop} {Q:Exit->Act->World->Prop}
def jL {k:FuncId} {fn:Func} (I:P.funcs[k]? =some fn) (J:(fn.name== "runtime.NumGoroutine")=false) (F:fn.body.isNone=false) (args:Array Value) (w':World):
  (callFunc k args).run P w'= .ok (.enter k args) w':=by
 have E:¬fn.name= "runtime.NumGoroutine" :=by simpa using J
 have D:¬fn.body=none:=by intro e;simp[e]at F
 simp[callFunc,I,E,D]
def run_call {c:Call} {f:Operand} {k:FuncId} {first cap:Array Value} {fn:Func} (J:o.op= .call c) (D:c.callee= .value f) (M:a.eval f= .func (.func k) first cap)
  (F:P.funcs[k]? =some fn) (I:(fn.name== "runtime.NumGoroutine")=false) (E:fn.body.isNone=false) (w':World):
  (execOp a.eval o).run P w'= .ok (.enter k (first++c.args.map a.eval++cap)) w':=by
 obtain⟨callee,args,argTypes⟩:=c
 simp only at D
 subst D
 simp[execOp,J,resolve,M,Deferred.ofValue,invoke,jL F I E]
def nP {first cap:Array Value} {args:Array Operand} {D:List AV} {τ:Store} (I:Sat G τ w) (F:∀j,Rep τ w (env.get j) (a.tmps.getD j undef)) (E:aE ((args.toList.map SOpd.of).map (·.eval G env)) D):
  RepL τ w (first.toList.map AV.ofValue++D++cap.toList.map AV.ofValue) (first++args.map a.eval++cap).toList:=by
 simp only[Array.toList_append,Array.toList_map]
 exact RepL.append (RepL.append (sN τ w _) (E.rep (nq I F _))) (sN τ w _)
def e_callF {k:FuncId} {first cap:Array Value} {args:Array Operand} (O:∀w',(execOp a.eval o).run P w'=(callFunc k (first++args.map a.eval++cap)).run P w')
  (hS:Sat G (σ++ρ) w) (hE:∀j,Rep (σ++ρ) w (env.get j) (a.tmps.getD j undef))
  (h:mq G P (.func (.func k) first cap) ((args.toList.map SOpd.of).map (·.eval G env)) σ K) (hn:Goes G σ ρ w a o K next):o.wp P a w next Q:=by
 obtain⟨R,V,σr,X,D,Z,E,aa,hK⟩:=h
 have N:Sat G (V++(σr++ρ)) w:=by
  have:=hS.subN ⟨E,aa⟩;rwa [append_assoc]at this
 have I:Sub (V++(σr++ρ)) (σ++ρ):=by
  intro p J;rw[←append_assoc]at J
  rcases mem_append.1 J with J|J
  ·exact mem_append.2 (.inl (E p J))
  ·exact mem_append.2 (.inr J)
 have hA:=RepL.sub I (nP (first:=first) (cap:=cap) (args:=args) hS hE Z)
 unfold Oper.wp
 rw[O]
 rcases D with⟨k',F,M,hv,⟨fn,g1,g2,g3⟩,D⟩|⟨k',F,M,hv,D⟩
 ·cases hv
  rw[jL g1 g2 g3];simp only[Oper.upon_enter];refine(D (σr++ρ) w _ N hA).mono ?_;rintro e w' ⟨v,r,σ',rfl,Y,s1,ev,T⟩;rw[←append_assoc]at s1 T;exact hn v r (σ'++σr) w' (hK r σ' Y s1.nodup_left) s1 (ev.frame E) T
 ·cases hv
  obtain⟨v,r,σ',w',hr,Y,s1,ev,T⟩:=D (σr++ρ) w _ N hA;rw[hr];simp only[Oper.upon_value];rw[←append_assoc]at s1 T;exact hn v r (σ'++σr) w' (hK r σ' Y s1.nodup_left) s1 (ev.frame E) T
def mq.func {f:Value} {args:List AV} (h:mq G P f args σ K):∃k first cap,f= .func (.func k) first cap:=by
 obtain⟨_,_,_,_,⟨k,first,cap,D,_⟩|⟨k,first,cap,D,_⟩,_⟩:=h
 ·exact⟨k,first,cap,D⟩
 ·exact⟨k,first,cap,D⟩
def e_call {c:Call} {f:Operand} (N:o.op= .call c) (I:c.callee= .value f) (F:Sat G (σ++ρ) w) (E:∀j,Rep (σ++ρ) w (env.get j) (a.tmps.getD j undef))
  (h:scX ((SOpd.of f).eval G env) λv=>mq G P v ((c.args.toList.map SOpd.of).map (·.eval G env)) σ K) (M:Goes G σ ρ w a o K next):o.wp P a w next Q:=by
 have D:=au (G:=G) F E f
 unfold scX at h
 split at h
 ·rename_i v J
  rw[J]at D;simp only[Rep]at D;obtain⟨k,first,cap,rfl⟩:=h.func;refine e_callF (args:=c.args) (λw'=>?_) F E h M;obtain⟨callee,args,argTypes⟩:=c;simp only at I;subst I;simp[execOp,N,resolve,D,Deferred.ofValue,invoke]
 ·exact h.elim
def e_invoke {c:Call} {x:Operand} {name:String} (Y:o.op= .call c) (I:c.callee= .invoke x name) (F:Sat G (σ++ρ) w) (E:∀j,Rep (σ++ρ) w (env.get j) (a.tmps.getD j undef))
  (h:scX ((SOpd.of x).eval G env) λv=>AInv G P v name ((c.args.toList.map SOpd.of).map (·.eval G env)) σ K) (X:Goes G σ ρ w a o K next):o.wp P a w next Q:=by
 have D:=au (G:=G) F E x
 unfold scX at h
 split at h
 ·rename_i v T
  rw[T]at D;simp only[Rep]at D;obtain⟨k,Z,V,h⟩:=h;refine e_callF (args:=c.args) (λw'=>?_) F E h X;obtain⟨callee,args,argTypes⟩:=c;simp only at I;subst I
  have J:(#[v]++args.map a.eval).extract 1 (#[v]++args.map a.eval).size=args.map a.eval:=by
   apply Array.ext';simp;rw[take_of_length_le (by simp)]
  have M:(#[v]++args.map a.eval)[0]? =some v:=by rw[Array.getElem?_append_left (show 0<1 by omega)];rfl
  have N:(execOp a.eval o).run P w'=(callMethod v name (args.map a.eval)).run P w':=by
   have O:execOp a.eval o=callMethod v name (args.map a.eval):=by
    unfold execOp;rw[Y];show(do let d ←resolve a.eval {callee:=.invoke x name,args:=args,argTypes:=argTypes} o.type;invoke d.target d.args)=_;show(pure _>>=_)=_;rw[pure_bind]
    show (do let some recv := (#[a.eval x] ++ args.map a.eval)[0]? | stuck "call: a method without a receiver"
             callMethod recv name ((#[a.eval x] ++ args.map a.eval).extract 1 (#[a.eval x] ++ args.map a.eval).size)) = _
    rw[D,M,J]
   rw[O]
  rw[N,V];simp
 ·exact h.elim
def ik {op:Op} {I:SOp} (T:o.op=op) (D:ci P op=some I) (O:Sat G (σ++ρ) w) (X:∀j,Rep (σ++ρ) w (env.get j) (a.tmps.getD j undef)) (h:aop G P I env σ K)
  (N:Goes G σ ρ w a o K next):o.wp P a w next Q:=by
 have E:(aop G P I env σ K=aq G I env σ λr=>K r σ)->o.wp P a w next Q:=λe=>e_quiet T D O X (by rw[e]at h;exact h) N
 cases op with
 |alloc e=>
  have D:(da P e).map (.alloc e ·)=some I:=D;obtain⟨z,V,rfl⟩:=Option.map_eq_some_iff.1 D;exact e_alloc T V O h N
 |box e x=>
  have D:(bC P e).map (.box e · (SOpd.of x))=some I:=D;obtain⟨z,V,rfl⟩:=Option.map_eq_some_iff.1 D;exact e_box T O X h N
 |store t x y=>
  have D:(bC P t).map (.store · (SOpd.of x) (SOpd.of y))=some I:=D;obtain⟨z,V,rfl⟩:=Option.map_eq_some_iff.1 D;exact e_store T V O X h N
 |buildSlice t len parts=>
  have D:dN P t len parts=some I:=D;unfold dN at D;split at D
  ·rename_i e hu;split at D
   ·rename_i n z Z V;split at D
    ·rename_i Y
     cases D
     simp at Y;exact e_buildS T hu Z V Y.1.1 Y.1.2 Y.2 O X h N
    ·cases D
   ·cases D
  ·cases D
 |call c=>
  cases J:c.callee with
  |invoke r m=>
   have D:(match c.callee with
    | .builtin b=>bJ P b c.args.toList c.argTypes.toList
    | .value f=>some (.call (SOpd.of f) (c.args.toList.map SOpd.of))
    | .invoke r name=>some (.invoke (SOpd.of r) name (c.args.toList.map SOpd.of)))=some I:=D
   rw[J]at D
   cases D
   exact e_invoke T J O X h N
  |value f=>
   have D:(match c.callee with
    | .builtin b=>bJ P b c.args.toList c.argTypes.toList
    | .value f=>some (.call (SOpd.of f) (c.args.toList.map SOpd.of))
    | .invoke r name=>some (.invoke (SOpd.of r) name (c.args.toList.map SOpd.of)))=some I:=D
   rw[J]at D
   cases D
   exact e_call T J O X h N
  |builtin b=>
   have F:(match c.callee with
    | .builtin b=>bJ P b c.args.toList c.argTypes.toList
    | .value f=>some (.call (SOpd.of f) (c.args.toList.map SOpd.of))
    | .invoke r name=>some (.invoke (SOpd.of r) name (c.args.toList.map SOpd.of)))=some I:=D
   rw[J]at F;have F:bJ P b c.args.toList c.argTypes.toList=some I:=F;unfold bJ at F;split at F
   ·split at F
    ·cases F;exact E rfl
    ·cases F;exact E rfl
    ·cases F
   ·rename_i x y t tx e1 e2 _e3;split at F
    ·rename_i e e' hu hk;split at F
     ·rename_i i z hi V;split at F
      ·rename_i M
       cases F
       simp at M;exact e_append (rest:=c) T J (by apply Array.ext';simpa using e1) (by apply Array.ext';simpa using e2) hu hk hi V M.1.1 M.1.2 M.2 O X h N
      ·cases F
     ·cases F
    ·cases F
   ·cases F
 |move x=>cases D;exact E rfl
 |assign x=>cases D;exact E rfl
 |pick c x y=>cases D;exact E rfl
 |nilCheck x=>cases D;exact E rfl
 |extract x i=>cases D;exact E rfl
 |makeInterface t x=>
  have D:fZ P t x=some I:=D;unfold fZ at D;split at D
  ·cases D
  ·cases D;exact E rfl
  ·cases D
 |makeFunc fn first cap=>cases D;exact E rfl
 |load t x=>
  have D:dU P t x=some I:=D;unfold dU at D;split at D
  ·split at D
   ·cases D;exact E rfl
   ·cases D
  ·cases D
 |build t parts=>
  have D:ei P t parts=some I:=D;unfold ei at D;split at D
  ·split at D
   ·cases D
   obtain⟨sp,hm,rfl⟩:=Option.map_eq_some_iff.1 D;exact E rfl
  ·cases D
 |fieldAddr t x i=>
  have D:cb P t x i=some I:=D;unfold cb at D;split at D
  ·split at D
   ·split at D
    ·cases D;exact E rfl
    ·cases D
   ·cases D
  ·cases D
 |indexAddr t x i=>
  have D:dR P t x i=some I:=D;unfold dR at D;split at D
  ·obtain⟨n,N,rfl⟩:=Option.map_eq_some_iff.1 D;exact E rfl
  ·obtain⟨n,N,rfl⟩:=Option.map_eq_some_iff.1 D;exact E rfl
  ·cases D
 |index t x i=>
  have D:ep P t x i=some I:=D;unfold ep at D;split at D
  ·cases D;exact E rfl
  ·cases D
 |slice t x lo hi mx=>
  cases mx with
  |some m=>cases D
  |none=>
   have D:et P t x lo hi=some I:=D;unfold et at D;split at D
   ·obtain⟨n,N,rfl⟩:=Option.map_eq_some_iff.1 D;exact E rfl
   ·cases D;exact E rfl
   ·cases D
 |field t x i=>
  have D:eu P t x i=some I:=D;unfold eu at D;split at D
  ·split at D
   ·split at D
    ·split at D
     ·cases D;exact E rfl
     ·cases D
    ·cases D
   ·cases D
  ·cases D
 |binOp op t x y u=>
  have D:gi P op t x y=some I:=D;unfold gi at D;split at D
  ·split at D
   ·cases D;exact E rfl
   ·cases D
  ·split at D
   ·cases D;exact E rfl
   ·cases D
  ·obtain⟨n,N,rfl⟩:=Option.map_eq_some_iff.1 D;exact E rfl
  ·split at D
   ·split at D
    ·cases D
    obtain⟨n,N,rfl⟩:=Option.map_eq_some_iff.1 D;exact E rfl
   ·cases D
  ·split at D
   ·obtain⟨n,N,rfl⟩:=Option.map_eq_some_iff.1 D;exact E rfl
   ·cases D
  ·cases D
 |unOp op t x=>
  cases op<;>first
   |(cases D;done)
   |(cases D;exact E rfl)
 |convert s d x=>
  have D:fb P s d x=some I:=D;unfold fb at D;split at D
  ·cases D;exact E rfl
  ·cases D;exact E rfl
  ·cases D
 |_=>cases D
end
end Go.Av
