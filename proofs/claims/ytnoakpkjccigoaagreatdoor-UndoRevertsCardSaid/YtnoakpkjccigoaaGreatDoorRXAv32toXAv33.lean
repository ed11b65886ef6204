/-
  ABSTRACT VALUES, 32: slices over cells of the call's own, at any offset: cut, grown, copied, cleared.
-/
import Derived.Test.YtnoakpkjccigoaaGreatDoorRXU8toXAv31
import Derived.Lib.AppendZerosOnto
namespace Go.Av
open Go Go.RowKit List
set_option linter.unusedSimpArgs false
set_option linter.unusedVariables false
structure RowsAt (sz:Nat) (cs:List AV) (o n:Nat) (rows:List (List AV)):Prop where
 len:rows.length=n
 row:∀r∈rows,r.length=sz
 fit:o+n*sz<=cs.length
 eq:(cs.drop o).take (n*sz)=rows.flatten
theorem gN {sz:Nat}:∀{rows:List (List AV)} {n:Nat},(∀r∈rows,r.length=sz)->(rows.take n).flatten=rows.flatten.take (n*sz)
 |[],n,_=>by simp
 |r::rows,0,_=>by simp
 |r::rows,n+1,h=>by
  have E:=h r (by simp)
  have D:r.length<=(n+1)*sz:=by rw[E,Nat.add_mul];omega
  have F:(n+1)*sz-r.length=n*sz:=by rw[E,Nat.add_mul];omega
  rw[take_succ_cons,flatten_cons,flatten_cons,gN (λq I=>h q (mem_cons_of_mem _ I)),take_append,take_of_length_le D,F]
theorem lN {sz:Nat}:∀{rows:List (List AV)} {n:Nat},(∀r∈rows,r.length=sz)->(rows.drop n).flatten=rows.flatten.drop (n*sz)
 |[],n,_=>by simp
 |r::rows,0,_=>by simp
 |r::rows,n+1,h=>by
  have E:=h r (by simp)
  have D:r.length<=(n+1)*sz:=by rw[E,Nat.add_mul];omega
  have F:(n+1)*sz-r.length=n*sz:=by rw[E,Nat.add_mul];omega
  rw[drop_succ_cons,flatten_cons,lN (λq I=>h q (mem_cons_of_mem _ I)),drop_append,drop_of_length_le D,nil_append,F]
theorem RowsAt.cut {sz:Nat} {rows:List (List AV)} {pad:List AV} (h:∀r∈rows,r.length=sz) {l k:Nat} (E:l+k<=rows.length):RowsAt sz (rows.flatten++pad) (l*sz) k ((rows.drop l).take k):=by
 have F:=au rows h
 have I:l*sz+k*sz<=rows.length*sz:=by rw[←Nat.add_mul];exact Nat.mul_le_mul_right _ E
 refine⟨by rw[length_take,length_drop];omega,λr D=>h r (mem_of_mem_drop (mem_of_mem_take D)),by rw[length_append];omega,?_⟩
 rw[gN (λr D=>h r (mem_of_mem_drop D)),lN h,drop_append_of_le_length (by omega),take_append_of_le_length (by rw[length_drop];omega)]
def srcO (σ:Store) (sz:Nat) (x:AV) (ys:List (List AV)):Prop:=
 srcX sz x (λl=>l=ys)\/∃b o n c e cs,x= .sc (.slice (some ⟨b,o,none⟩) n c)/\σ.get b=some (.cells e cs)/\RowsAt sz cs o n ys
section
variable {G:Glob} {P:Program} {σ ρ:Store} {w:World} {env:Env} {K:AV->Store->Prop}
theorem nw {sz:Nat} {x:AV} {u:Value} {ys:List (List AV)} (hS:Sat G (σ++ρ) w) (J:Rep (σ++ρ) w x u) (h:srcO σ sz x ys):
  ∃E c D,u= .slice E ys.length c/\D.length=ys.length*sz/\RepL (σ++ρ) w ys.flatten D/\(∀v∈D,v.oneCell'=true)/\(∀r∈ys,r.length=sz)/\(E=none->ys=[])/\
   ∀a,E=some a->∀j v,D[j]? =some v->w.cell? (a.add j)=some v:=by
 have F:ys=[]->u= .slice none 0 0->_:=λT Z=>(⟨none,0,[],by rw[T,Z];rfl,by rw[T];simp,by rw[T];simp[RepL],by simp,by rw[T];simp,λ_=>T,(λa N=>by cases N)⟩:∃E c D,u= .slice E ys.length c/\D.length=ys.length*sz/\RepL (σ++ρ) w ys.flatten D/\(∀v∈D,v.oneCell'=true)/\(∀r∈ys,r.length=sz)/\(E=none->ys=[])/\
   ∀a,E=some a->∀j v,D[j]? =some v->w.cell? (a.add j)=some v)
 have I:∀(V:Addr) (cap:Nat),u= .slice (some V) ys.length cap->ar (σ++ρ) w V sz 0 ys->∃E c D,u= .slice E ys.length c/\D.length=ys.length*sz/\RepL (σ++ρ) w ys.flatten D/\(∀v∈D,v.oneCell'=true)/\(∀r∈ys,r.length=sz)/\(E=none->ys=[])/\
   ∀a,E=some a->∀j v,D[j]? =some v->w.cell? (a.add j)=some v:=by
  intro V cap Z M
  obtain⟨vs,l1,l2,l3,l4⟩:=M.vals
  exact⟨some V,cap,vs,Z,l1,l2,l3,M.flat.2.2,(λh=>by cases h),(λa N=>by injection N with N;subst N;exact l4)⟩
 rcases h with h|⟨b,o,n,c,e,cs,rfl,hg,M⟩
 ·unfold srcX at h
  split at h
  ·simp only[Rep]at J;exact F h.symm J
  ·obtain⟨rfl,rfl⟩:=h
   simp only[Rep]at J
   rcases J with⟨J,T⟩|⟨V,cap,J,_,_,M⟩
   ·exact F T J
   ·exact I V cap J M
  ·rename_i g e ah rows
   obtain⟨rfl,rfl⟩:=h
   cases g with
   |none=>simp only[Rep]at J;exact F J.2 J.1
   |some b=>simp only[Rep]at J;obtain⟨cap,J,_,_,_,M⟩:=J;exact I _ cap J M
  ·exact h.elim
 ·obtain⟨h1,h2,h3,h4⟩:=M
  subst h1
  simp only[Rep]at J
  subst J
  obtain⟨vs,hh,Y,O⟩:=hS.obj b _ (mem_append.2 (.inl (Store.get_mem hg)))
  have ac:=O.length
  have M:=RepL.take (ys.length*sz) (RepL.drop o O)
  rw[h4]at M
  refine⟨some ⟨b,o,none⟩,c,_,rfl,?_,M,λv hv=>Y v (mem_of_mem_drop (mem_of_mem_take hv)),h2,(λh=>by cases h),λa N j v X=>?_⟩
  ·rw[length_take,length_drop,ac];omega
  ·injection N with N
   subst N
   rw[getElem?_take]at X
   split at X
   ·rw[add_lit,cell_of_row w b (o+j) vs e (0,0) hh]
    rw[getElem?_drop]at X
    simpa using X
   ·cases X
theorem srcO_ok {sz:Nat} {x:AV} {u:Value} {N e':TypeId} {ys:List (List AV)} (M:P.underlying N=some (.slice e')) (Y:Sat G (σ++ρ) w) (Z:Rep (σ++ρ) w x u) (h:srcO σ sz x ys):
  ∃D,Src P sz N u ys.length D w/\RepL (σ++ρ) w ys.flatten D/\∀r∈ys,r.length=sz:=by
 obtain⟨E,c,D,rfl,F,I,T,J,V,X⟩:=nw Y Z h
 cases E with
 |none=>
  have O:=V rfl
  subst O
  have:D=[]:=eq_nil_of_length_eq_zero (by rw[F];simp)
  subst this
  exact⟨[],Src.ofNil w M c,I,J⟩
 |some a=>exact⟨D,Src.ofSlice w M a _ c D F (X a rfl) T,I,J⟩
theorem ip {t V ty e:TypeId} {i:TypeInfo} (Z:P.underlying t=some (.slice e)) (hi:P.info? e=some i) {b off D I:Nat} {F:Array Value} {e':TypeId} (Y:w.heap[b]? =some (.cells F e' (0,0)))
  {x:Value} {n:Nat} {E:List Value} (O:Src P i.size V x n E w) (J:D+n<=I) (M:off+D*i.size+E.length<=F.size):
  (Builtin.append_ #[t,V] ty #[.slice (some ⟨b,off,none⟩) D I,x]).run P w=
   .ok (.slice (some ⟨b,off,none⟩) (D+n) I) (w.setRow b (F.toList.take (off+D*i.size)++E++F.toList.drop (off+D*i.size+E.length)).toArray):=by
 have N:=run_storeCells_at P b (off+D*i.size) e' E 0 F w Y (by simpa using M) O.one
 simp only[Nat.add_zero]at N
 rcases O.kind with⟨X,T⟩|T<;>simp[Builtin.append_,run_underlying Z,run_underlying T,sizeOf,typeInfo,hi,O.len,J,O.cells,Addr.add_lit,N]
theorem nb {b o n sz:Nat} {e:TypeId} {cs:List AV} {rows:List (List AV)} (O:Sat G (σ++ρ) w) (T:σ.get b=some (.cells e cs)) (N:RowsAt sz cs o n rows):
  ∃vs,w.heap[b]? =some (.cells vs e (0,0))/\vs.size=cs.length/\((vs.toList.drop o).take (n*sz)).length=n*sz/\RepL (σ++ρ) w rows.flatten ((vs.toList.drop o).take (n*sz))/\(∀v∈(vs.toList.drop o).take (n*sz),v.oneCell'=true)/\
   ∀j v,((vs.toList.drop o).take (n*sz))[j]? =some v->w.cell? ((⟨b,o,none⟩:Addr).add j)=some v:=by
 obtain⟨vs,M,F,D⟩:=O.obj b _ (mem_append.2 (.inl (Store.get_mem T)))
 have J:=D.length
 have I:=RepL.take (n*sz) (RepL.drop o D)
 rw[N.eq]at I
 have:=N.fit
 refine⟨vs,M,by simpa using J,?_,I,λv V=>F v (mem_of_mem_drop (mem_of_mem_take V)),λj v E=>?_⟩
 ·rw[length_take,length_drop,J];omega
 ·rw[getElem?_take]at E
  split at E
  ·rw[add_lit,cell_of_row w b (o+j) vs e (0,0) M]
   rw[getElem?_drop]at E
   simpa using E
  ·cases E
theorem eL {t tx e e':TypeId} {sz bytes b o n cap:Nat} {x y:Operand} {rows ys:List (List AV)} {cs z:List AV}
  (hu:P.underlying t=some (.slice e)) (hk:P.underlying tx=some (.slice e')) (hi:(P.info? e).map (λi=>(i.size,i.bytes))=some (sz,bytes)) (hz:cK P e=some z) (e3:z.length=sz) (e1:sz≠0) (bq:bytes≠0)
  (d3:(SOpd.of x).eval G env= .sc (.slice (some ⟨b,o,none⟩) n cap)) (hg:σ.get b=some (.cells e cs)) (J:RowsAt sz cs o n rows) (e0:o+cap*sz<=cs.length)
  (d4:srcO σ sz ((SOpd.of y).eval G env) ys) (O:(n+ys.length)*bytes<=140737488355328)
  (cp:n+ys.length<=cap->K (.sc (.slice (some ⟨b,o,none⟩) (n+ys.length) cap)) (σ.set b (.cells e (aH cs (o+n*sz) ys.flatten))))
  (cw:cap<n+ys.length->∀b' I pad,b'∉σ.keys->n+ys.length<=I->I<=maxLen->(∀r∈rows++ys,r.length=sz)->((rows++ys).flatten++pad).length=I*sz->
   K (.sc (.slice (some ⟨b',0,none⟩) (n+ys.length) I)) ((b',.cells e ((rows++ys).flatten++pad))::σ)):RAW G P (.call (.mk (.builtin .append) #[x,y] #[t,tx])) env σ K ⟨⟩:=by
 intro ρ w a op ho N hE
 have hx:=ao (G:=G) N hE x
 have hy:=ao (G:=G) N hE y
 rw[d3]at hx
 simp only[Rep]at hx
 obtain⟨i,hI,bk⟩:=Option.map_eq_some_iff.1 hi
 simp only[Prod.mk.injEq]at bk
 obtain⟨ch,cm⟩:=bk
 obtain⟨i',zv,aw,ds,dd,dc⟩:=cG (τ:=σ++ρ) (w:=w) hz
 rw[hI]at aw;cases aw
 have dl:zv.cells.size=sz:=by have:=dd.length;simp at this;omega
 have be:∀{v:Value} {w':World},(Builtin.append_ #[t,tx] op.type #[a.eval x,a.eval y]).run P w= .ok v w'->(execOp a.eval op).run P w= .ok (.value v) w':=by
  intro v w' E
  simp[execOp,ho,resolve,invoke,builtin,E]
 obtain⟨M,D,bh,ad⟩:=srcO_ok hk N hy d4
 have d1:=D.newsLen
 subst ch cm
 obtain⟨vs,hh,e2,bd,bi,bb,Y⟩:=nb N hg J
 by_cases F:n+ys.length<=cap
 ·have T:o+n*i.size+ys.flatten.length<=cs.length:=by
   have:=Nat.mul_le_mul_right i.size F
   rw[au _ ad];rw[Nat.add_mul]at this;omega
  obtain⟨e4,bx,d2,bs,bp⟩:=N.setRow hg bh D.one (off:=o+n*i.size) T
  have E:=ip (P:=P) (ty:=op.type) (off:=o) hu hI bx D F (by rw[d2,d1,←au _ ad];exact T)
  rw[←hx]at E
  exact⟨_,_,_,_,.inl (be E),cp F,bp,bs,by simp only[Rep]⟩
 ·have ac:cap<n+ys.length:=by omega
  have ah:n+ys.length<=maxLen:=by
   have:=Nat.le_mul_of_pos_right (n+ys.length) (Nat.pos_of_ne_zero bq)
   unfold maxLen;omega
  have bu:=run_firstCells_some (P:=P) w.drew i.size n ⟨b,o,none⟩ n cap _ bd (λj v hj=>by have:=Y j v hj;exact this)
  have E:=run_append_grow_src (P:=P) w t tx op.type e i zv hu hI ds (some ⟨b,o,none⟩) n cap _ bu (a.eval y) ys.length M D ac (by unfold maxLen at ah;omega) (growslice_fits ac O)
  rw[←hx]at E
  have an:=grownCap_ge w (n+ys.length) cap e
  have al:=grownCap_le_maxLen w (n+ys.length) cap e ah
  generalize grownCap w (n+ys.length) cap e=c2 at E an al
  generalize holds:(vs.toList.drop o).take (n*i.size)=olds at E bd bi bb
  let C:Array Value:=(olds++M).toArray++Builtin.zeroCells zv.cells (c2-(n+ys.length))
  have bo:w.heap.size∉σ.keys:=λhm=>Nat.lt_irrefl _ (N.lt_left hm)
  let Z:=(Builtin.zeroCells zv.cells (c2-(n+ys.length))).toList
  have V:∀r∈rows++ys,r.length=i.size:=λr E=>by rcases mem_append.1 E with E|E<;>first|exact J.row r E|exact ad r E
  have bw:=au _ V
  have ba:(rows++ys).length=n+ys.length:=by rw[length_append,J.len]
  have d0:=cw ac w.heap.size c2 (List.replicate Z.length .any) bo an al V (by
   have:Z.length=(c2-(n+ys.length))*i.size:=by simp[Z,size_zeroCells,dl]
   rw[length_append,bw,length_replicate,this,ba,←Nat.add_mul]
   congr 1;omega)
  have s2:Sat G (σ++ρ) w.drew:=N.step Ev.drew N.nodup_left (λb hb=>.inl hb) (λb q hq=>(N.obj b q (mem_append.2 (.inl hq))).keep Ev.drew rfl)
  have bl:Ev σ w σ w.drew:=Ev.drew
  have bm:Ev σ w.drew ((w.heap.size,.cells e ((rows++ys).flatten++List.replicate Z.length .any))::σ) (w.drew.alloc (.cells C e)):=Ev.alloc (σ:=σ) (w:=w.drew) _ _
  have ev:=bl.trans bm
  have s3:=s2.alloc (.cells C e) (.cells e ((rows++ys).flatten++List.replicate Z.length .any)) ⟨C,heap_alloc_new w.drew _,by
    intro v X
    simp only[C,Array.toList_append,mem_append]at X
    rcases X with(X|X)|X
    ·exact bb v X
    ·exact D.one v X
    ·exact dc _ (cv X),by
    have h9:=RepL.append (RepL.ev ev _ _ bi) (RepL.ev ev _ _ bh)
    rw[←flatten_append]at h9
    have bn:=RepL.append h9 (RepL.any _ _ Z)
    rw[show C.toList=olds++M++Z by simp only[C,Z,Array.toList_append]]
    exact bn⟩
  exact⟨_,_,_,_,.inl (be E),d0,s3,ev,by simp only[Rep]⟩
theorem fN {z:Array Value} (D:0<z.size) (c:Nat):(Builtin.zeroCells z c).toList=(List.replicate c z.toList).flatten:=fS D c
theorem jD {t tn e:TypeId} {sz bytes b o n cap k:Nat} {x y:Operand} {rows:List (List AV)} {cs z:List AV} {kq kn:IntKind}
  (hu:P.underlying t=some (.slice e)) (hk:P.underlying tn=some (.int kn)) (hi:(P.info? e).map (λi=>(i.size,i.bytes))=some (sz,bytes)) (hz:cK P e=some z) (bs:z.length=sz) (bx:sz≠0) (be:bytes≠0)
  (bp:(SOpd.of x).eval G env= .sc (.slice (some ⟨b,o,none⟩) n cap)) (hg:σ.get b=some (.cells e cs)) (F:RowsAt sz cs o n rows)
  (bq:(SOpd.of y).eval G env= .int kq (k:Nat)) (bm:0<k) (X:cap<n+k) (E:(n+k)*bytes<=140737488355328)
  (bn:∀b' D pad,b'∉σ.keys->n+k<=D->D<=maxLen->(rows.flatten++((List.replicate k z).flatten++pad)).length=D*sz->
   K (.sc (.slice (some ⟨b',0,none⟩) (n+k) D)) ((b',.cells e (rows.flatten++((List.replicate k z).flatten++pad)))::σ)):RAW G P (.call (.mk (.builtin .append) #[x,y] #[t,tn])) env σ K ⟨⟩:=by
 intro ρ w a op ho J hE
 have hx:=ao (G:=G) J hE x
 have hy:=ao (G:=G) J hE y
 rw[bp]at hx
 rw[bq]at hy
 simp only[Rep]at hx hy
 obtain⟨i,hI,ah⟩:=Option.map_eq_some_iff.1 hi
 simp only[Prod.mk.injEq]at ah
 obtain⟨bk,bl⟩:=ah
 obtain⟨i',zv,V,bw,an,al⟩:=cG (τ:=σ++ρ) (w:=w) hz
 rw[hI]at V;cases V
 have bu:zv.cells.size=sz:=by have:=an.length;simp at this;omega
 subst bk bl
 obtain⟨vs,hh,ch,ac,ad,Y,M⟩:=nb J hg F
 have N:n+k<=maxLen:=by
  have:=Nat.le_mul_of_pos_right (n+k) (Nat.pos_of_ne_zero be)
  unfold maxLen;omega
 have bh:=run_firstCells_some (P:=P) w.drew i.size n ⟨b,o,none⟩ n cap _ ac (λj v hj=>by have:=M j v hj;exact this)
 have hr:=Lib.run_append_grow_zeros (P:=P) w t tn op.type e i zv kq kn hu hk hI bw (some ⟨b,o,none⟩) n cap _ bh k bm (by omega) X (by unfold maxLen at N;omega) (by rw[Nat.add_mul]at E;omega) (growslice_fits X E)
 rw[←hx,←hy]at hr
 have T:=grownCap_ge w (n+k) cap e
 have O:=grownCap_le_maxLen w (n+k) cap e N
 generalize grownCap w (n+k) cap e=c2 at hr T O
 generalize holds:(vs.toList.drop o).take (n*i.size)=olds at hr ac ad Y
 let C:Array Value:=olds.toArray++Builtin.zeroCells zv.cells k++Builtin.zeroCells zv.cells (c2-(n+k))
 have bb:w.heap.size∉σ.keys:=λhm=>Nat.lt_irrefl _ (J.lt_left hm)
 let Z:=(Builtin.zeroCells zv.cells (c2-(n+k))).toList
 have bi:=au _ F.row
 have bo:=bn w.heap.size c2 (List.replicate Z.length .any) bb T O (by
  have:Z.length=(c2-(n+k))*i.size:=by simp[Z,size_zeroCells,bu]
  rw[length_append,length_append,bi,cb,length_replicate,this,F.len,bs,←Nat.add_mul,←Nat.add_mul]
  congr 1;omega)
 have s2:Sat G (σ++ρ) w.drew:=J.step Ev.drew J.nodup_left (λb hb=>.inl hb) (λb q hq=>(J.obj b q (mem_append.2 (.inl hq))).keep Ev.drew rfl)
 have aw:Ev σ w σ w.drew:=Ev.drew
 have ba:Ev σ w.drew ((w.heap.size,.cells e (rows.flatten++((List.replicate k z).flatten++List.replicate Z.length .any)))::σ) (w.drew.alloc (.cells C e)):=Ev.alloc (σ:=σ) (w:=w.drew) _ _
 have ev:=aw.trans ba
 have bd:(Builtin.zeroCells zv.cells k).toList=(List.replicate k zv.cells.toList).flatten:=fN (by omega) k
 have s3:=s2.alloc (.cells C e) (.cells e (rows.flatten++((List.replicate k z).flatten++List.replicate Z.length .any))) ⟨C,heap_alloc_new w.drew _,by
   intro v I
   simp only[C,Array.toList_append,mem_append]at I
   rcases I with(I|I)|I
   ·exact Y v I
   ·exact al _ (cv I)
   ·exact al _ (cv I),by
   have h9:=RepL.append (RepL.ev ev _ _ ad) (RepL.append (RepL.ev ev _ _ (gI an k)) (RepL.any _ _ Z))
   rw[show C.toList=olds++((List.replicate k zv.cells.toList).flatten++Z)by simp only[C,Z,Array.toList_append,bd,append_assoc]]
   exact h9⟩
 refine⟨.slice (some ⟨w.heap.size,0,none⟩) (n+k) c2,_,_,_,.inl ?_,bo,s3,ev,by simp only[Rep]⟩
 simp[execOp,ho,resolve,invoke,builtin,hr]
 simp[C,Array.append_assoc]
theorem lY {X sT elem e:TypeId} {b o D dc sz:Nat} {x y:Operand} {cs:List AV} {ys:List (List AV)} (hu:P.underlying X=some (.slice elem)) (V:(P.info? elem).map (·.size)=some sz)
  (ba:(SOpd.of x).eval G env= .sc (.slice (some ⟨b,o,none⟩) D dc)) (hg:σ.get b=some (.cells e cs)) (bb:srcO σ sz ((SOpd.of y).eval G env) ys) (J:o+min ys.length D*sz<=cs.length)
  (an:min ys.length D=0->K (.int .i64 0) σ) (hk:min ys.length D≠0->K (.int .i64 (min ys.length D:Nat)) (σ.set b (.cells e (aH cs o (ys.take (min ys.length D)).flatten)))):
  RAW G P (.call (.mk (.builtin .copy) #[x,y] #[X,sT])) env σ K ⟨⟩:=by
 intro ρ w a op ho N hE
 have Z:=ao (G:=G) N hE x
 have hy:=ao (G:=G) N hE y
 rw[ba]at Z
 simp only[Rep]at Z
 obtain⟨I,c,F,h0,h1,h2,h3,h4,h5,h6⟩:=nw N hy bb
 by_cases O:min ys.length D=0
 ·have E:=kB (P:=P) w X sT op.type elem (some ⟨b,o,none⟩) I D dc ys.length c sz hu V O
  rw[←Z,←h0]at E
  refine⟨goInt 0,_,.int .i64 0,_,.inl ?_,an O,N,Ev.refl _ _,by simp[Rep,goInt]⟩
  simp[execOp,ho,resolve,invoke,builtin,E]
 ·cases I with
  |none=>rw[h5 rfl]at O;simp at O
  |some ad=>
   have bd:min ys.length D*sz<=ys.length*sz:=Nat.mul_le_mul_right _ (Nat.min_le_left _ _)
   have hr:RepL (σ++ρ) w (ys.take (min ys.length D)).flatten (F.take (min ys.length D*sz)):=by rw[gN h4];exact RepL.take _ h2
   have T:(F.take (min ys.length D*sz)).length=min ys.length D*sz:=by rw[length_take,h1];omega
   have M:∀v∈F.take (min ys.length D*sz),v.oneCell'=true:=λv hv=>h3 v (mem_of_mem_take hv)
   have al:(ys.take (min ys.length D)).flatten.length=min ys.length D*sz:=by rw[au _ (λr hr=>h4 r (mem_of_mem_take hr)),length_take];congr 1;omega
   obtain⟨vs,hh,aw,ah,ac⟩:=N.setRow hg hr M (off:=o) (by rw[al];exact J)
   have E:=lg (P:=P) w X sT op.type elem b o D dc sz ad ys.length c vs e (F.take (min ys.length D*sz)) hu V hh T (λj v Y=>h6 ad rfl j v (by
    rw[getElem?_take]at Y
    split at Y
    ·exact Y
    ·cases Y)) (by rw[T,aw];exact J) M
   rw[←Z,←h0]at E
   refine⟨goInt (min ys.length D:Nat),_,.int .i64 (min ys.length D:Nat),_,.inl ?_,hk O,ac,ah,by simp[Rep,goInt]⟩
   simp[execOp,ho,resolve,invoke,builtin,E]
theorem o5 {t elem e:TypeId} {b o n c sz:Nat} {x:Operand} {cs z:List AV} (hu:P.underlying t=some (.slice elem)) (hz:cK P elem=some z) (ad:z.length=sz) (an:sz≠0)
  (Z:(SOpd.of x).eval G env= .sc (.slice (some ⟨b,o,none⟩) n c)) (hg:σ.get b=some (.cells e cs)) (E:o+n*sz<=cs.length)
  (X:n=0->K .any σ) (hk:n≠0->K .any (σ.set b (.cells e (aH cs o (List.replicate n z).flatten)))):
  RAW G P (.call (.mk (.builtin .clear) #[x] #[t])) env σ K ⟨⟩:=by
 intro ρ w a op ho O hE
 have N:=ao (G:=G) O hE x
 rw[Z]at N
 simp only[Rep]at N
 obtain⟨i,zv,hi,al,M,ac⟩:=cG (τ:=σ++ρ) (w:=w) hz
 have ah:zv.cells.size=sz:=by have:=M.length;simp at this;omega
 by_cases hn:n=0
 ·subst hn
  have D:(Builtin.clear_ #[t] op.type #[a.eval x]).run P w= .ok (.tuple #[]) w:=by
   rw[N];simp[Builtin.clear_,run_underlying hu]
  refine⟨.tuple #[],w,.any,_,.inl ?_,X rfl,O,Ev.refl _ _,by simp only[Rep]⟩
  simp[execOp,ho,resolve,invoke,builtin,D]
 ·have hZ:(Builtin.zeroCells zv.cells n).toList=(List.replicate n zv.cells.toList).flatten:=fN (by omega) n
  have hr:=gI M n
  have F:∀v∈(List.replicate n zv.cells.toList).flatten,v.oneCell'=true:=λv hv=>by rw[←hZ]at hv;exact ac _ (cv hv)
  obtain⟨vs,hh,Y,V,T⟩:=O.setRow hg hr F (off:=o) (by rw[cb,ad];exact E)
  have J:zv.cells.toList.length=sz:=by simpa using ah
  have I:=run_storeCells_at P b o e (List.replicate n zv.cells.toList).flatten 0 vs w hh (by rw[cb,J,Y];simpa using E) F
  simp only[Nat.add_zero]at I
  have D:(Builtin.clear_ #[t] op.type #[a.eval x]).run P w= .ok (.tuple #[]) (w.setRow b (vs.toList.take o++(List.replicate n zv.cells.toList).flatten++vs.toList.drop (o+(List.replicate n zv.cells.toList).flatten.length)).toArray):=by
   obtain⟨m,rfl⟩:∃m,n=m+1:=⟨n-1,by omega⟩
   rw[N]
   simp[Builtin.clear_,run_underlying hu,zeroValue,typeInfo,hi,al,hZ,I]
  refine⟨.tuple #[],_,.any,_,.inl ?_,hk hn,T,V,by simp only[Rep]⟩
  simp[execOp,ho,resolve,invoke,builtin,D]
theorem nU {x:Operand} {F e:TypeId} {D:Option Addr} {n c:Nat} (T:(SOpd.of x).eval G env= .sc (.slice D n c)) (O:P.underlying F=some (.slice e))
  (M:K (.int .i64 c) σ):RAW G P (.call (.mk (.builtin .cap) #[x] #[F])) env σ K ⟨⟩:=by
 refine cW _ (λρ w a op N J I=>?_) M
 have E:=ao J I x
 rw[T]at E
 simp only[Rep]at E
 refine⟨.int .i64 c,?_,by simp only[Rep]⟩
 simp[execOp,N,resolve,invoke,builtin,E,Builtin.cap_,run_underlying O]
 try rfl
def bndO (G:Glob) (env:Env) (y:Option Operand) (d v:Nat):Prop:=match y with
 |none=>v=d
 |some y=>∃k,(SOpd.of y).eval G env= .int k (v:Nat)
theorem oJ {t e:TypeId} {x:Operand} {lo hi I:Option Operand} {l h m b o n cap sz:Nat} (Z:P.underlying t=some (.slice e)) (Y:(P.info? e).map (·.size)=some sz)
  (hx:(SOpd.of x).eval G env= .sc (.slice (some ⟨b,o,none⟩) n cap)) (E:bndO G env lo 0 l) (D:bndO G env hi n h) (F:bndO G env I cap m) (J:I.isSome=true->hi.isSome=true) (h1:l<=h) (h2:h<=m) (h3:m<=cap)
  (X:K (.sc (.slice (some ⟨b,if m=l then o else o+l*sz,none⟩) (h-l) (m-l))) σ):RAW G P (.slice t x lo hi I) env σ K ⟨⟩:=by
 refine cW _ (λρ w a op ho N M=>?_) X
 have O:=ao (G:=G) N M x
 rw[hx]at O
 simp only[Rep]at O
 obtain⟨i,T,V⟩:=Option.map_eq_some_iff.1 Y
 refine⟨_,?_,by simp only[Rep];rfl⟩
 have ev:∀{y:Operand} {k:IntKind} {v:Nat},(SOpd.of y).eval G env= .int k (v:Nat)->a.eval y= .int k (v:Nat):=by
  intro y k v hy
  have:=ao (G:=G) N M y
  rw[hy]at this
  simpa only[Rep]using this
 have c1:l<=m:=by omega
 have c2:h<=cap:=by omega
 cases lo<;>cases hi<;>cases I<;>simp only[bndO,Option.isSome,Bool.false_eq_true,forall_const,implies_true,reduceCtorEq]at E D F J
 all_goals(
  try obtain⟨k1,E⟩:=E
  try obtain⟨k2,D⟩:=D
  try obtain⟨k3,F⟩:=F
  try subst E
  try subst D
  try subst F
  try have e1:=ev E
  try have e2:=ev D
  try have e3:=ev F
  simp_all[execOp,Instr.sliceAt,Instr.slice,run_underlying Z,Instr.sliceBounds,Instr.sliceBound,asIntOf,sizeOf,typeInfo,add_lit]
  try(split<;>rfl))
end
section
variable {G:Glob} {P:Program}
theorem fnAt_ex {k:Nat} {g:List Nat} {F:List (Nat×Option (Bool×Nat))} {s:SCode} (D:fnAt P k g=some (F,s)):
  ∃fn,P.funcs[k]? =some fn/\(fn.name== "runtime.NumGoroutine")=false/\fn.body.isNone=false:=by
 unfold fnAt at D
 cases E:P.funcs[k]? with
 |none=>rw[E]at D;cases D
 |some fn=>
  rw[E]at D
  have D:ku P g fn=some (F,s):=D
  unfold ku at D
  split at D
  ·cases D
  ·rename_i J
   split at D
   ·rename_i c M I N
    exact⟨fn,rfl,by simpa using J,by rw[I];rfl⟩
   ·cases D
theorem ag.wn {k:Nat} {g:List Nat} {F:List (Nat×Option (Bool×Nat))} {s:SCode} {args:List AV} {σ:Store} {R:AV->Store->Prop} (D:fnAt P k g=some (F,s))
  (h:σ.keys.Nodup->W G P s (retQ F R) (cL 0 args) σ ⟨⟩):ag G P k args σ R:=by
 by_cases E:σ.keys.Nodup
 ·exact ag.w D (h E)
 ·exact⟨fnAt_ex D,λρ w vs I _=>absurd I.nodup_left E⟩
theorem Ev.cells1 {b:Nat} {e:TypeId} {cs cs':List AV} (w:World):Ev [(b,.cells e cs)] w [(b,.cells e cs')] w:=
 ⟨rfl,rfl,rfl,Nat.le_refl _,λ_ _ I=>⟨rfl,I⟩,λ_ _ h=>h,λa v J F=>⟨J,λ⟨x,D,_⟩=>F (by
  simp only[mem_singleton]at D
  obtain⟨E,M⟩:=Prod.mk.inj D
  exact⟨.cells e cs,by simp[E],trivial⟩)⟩⟩
theorem Weak.frz {env:Env} {b:Nat} {e:TypeId} {cs cs':List AV} {κ rest σ:Store} (h:FrzL κ cs cs') (hs:SubN ((b,.cells e cs)::(rest++κ)) σ):Weak G env σ env ((b,.cells e cs')::rest):=by
 intro ρ w tmps Y X
 have N:=Y.subN hs
 have hE:∀j,Rep ((b,.cells e cs)::(rest++κ)++ρ) w (env.get j) (tmps.getD j undef):=λj=>Rep.ev (Ev.of_sub hs.1 w) _ _ (X j)
 have ah:=N.nodup
 have J:=N.nodup_left
 have I:∀{q o:Nat},Mut ((b,.cells e cs')::rest) q o->Mut ((b,.cells e cs)::(rest++κ)) q o:=by
  rintro q o ⟨x,F,hm⟩
  rcases mem_cons.1 F with F|F
  ·obtain⟨V,h2⟩:=Prod.mk.inj F
   exact⟨.cells e cs,by simp[V],trivial⟩
  ·exact⟨x,mem_cons_of_mem _ (mem_append.2 (.inl F)),hm⟩
 have ev:Ev ((b,.cells e cs)::(rest++κ)) w ((b,.cells e cs')::rest) w:=
  ⟨rfl,rfl,rfl,Nat.le_refl _,λq _ hn=>⟨rfl,λD=>hn (by
   simp only[Store.keys,map_cons,mem_cons,map_append,mem_append]at D ⊢
   rcases D with D|D
   ·exact .inl D
   ·exact .inr (.inl D))⟩,λ_ _ h=>h,λ_ _ hv hm=>⟨hv,λm=>hm (I m)⟩⟩
 have M:(Store.keys ((b,.cells e cs')::rest)).Nodup:=by
  have:Store.keys ((b,.cells e cs)::(rest++κ))=Store.keys ((b,.cells e cs')::rest)++κ.keys:=by simp[Store.keys]
  rw[this]at J
  exact(nodup_append.1 J).1
 refine⟨N.step ev M (λq D=>.inl (by
  simp only[Store.keys,map_cons,mem_cons,map_append,mem_append]at D ⊢
  rcases D with D|D
  ·exact .inl D
  ·exact .inr (.inl D))) (λq x F=>?_),(Ev.of_sub hs.1 w).trans ev,λj=>Rep.ev ev _ _ (hE j)⟩
 rcases mem_cons.1 F with F|F
 ·obtain⟨V,h2⟩:=Prod.mk.inj F
  subst V h2
  obtain⟨vs,hh,O,T⟩:=N.obj q (.cells e cs) (by simp)
  refine⟨vs,hh,O,?_⟩
  have E:List.Perm (κ++((q,.cells e cs)::rest++ρ)) ((q,.cells e cs)::(rest++κ)++ρ):=by
   simp only[cons_append,append_assoc]
   refine(perm_middle).trans (List.Perm.cons _ ?_)
   rw[←append_assoc,←append_assoc]
   exact List.Perm.append_right _ perm_append_comm
  have Z:Sat G (κ++((q,.cells e cs)::rest++ρ)) w:=by
   have:=Sat.subN (ρ:=[]) (by simpa using N) (SubN.perm E)
   simpa using this
  have ac:RepL (κ++((q,.cells e cs)::rest++ρ)) w cs vs.toList:=RepL.sub (λp hp=>E.mem_iff.1 hp) T
  have ad:=FrzL.rep Z h ac
  have:=RepL.ev (ρ:=rest++ρ) (Ev.cells1 (b:=q) (e:=e) (cs:=cs) (cs':=cs') w) _ _ (by simpa using ad)
  simpa using this
 ·exact(N.obj q x (by simp[F])).keep ev rfl
end
theorem bD.mk {e:TypeId} {sz b cap n:Nat} {rows:List (List AV)} {pad:List AV} (J:n=rows.length) (D:rows.length<=cap) (E:cap<=maxLen) (F:∀r∈rows,r.length=sz) (I:(rows.flatten++pad).length=cap*sz):bD e sz rows (.sc (.slice (some ⟨b,0,none⟩) n cap)) [(b,.cells e (rows.flatten++pad))]:=by
 subst J
 exact⟨_,cap,rfl,.inr ⟨b,pad,rfl,rfl,D,E,F,I⟩⟩
section
variable {G:Glob} {P:Program}
theorem ag.freezeK {k:FuncId} {args ys:List AV} {σ:Store} {R1:Store->Prop} (h:ag G P k args σ (λr σ'=>∃xs κ D,r= .agg xs/\FrzL κ xs ys/\σ'=κ++D/\R1 D)):ag G P k args σ (λr σ'=>r= .agg ys/\R1 σ'):=
 ⟨h.1,λρ w vs Z X=>(h.2 ρ w vs Z X).mono λe w' ⟨v,r,σ',he,⟨xs,κ,D,hr,Y,N,J⟩,F,M,E⟩=>by
  subst hr N
  rw[append_assoc]at F E
  have I:Sub D (κ++D):=λq hq=>mem_append.2 (.inr hq)
  refine⟨v,.agg ys,D,he,⟨rfl,J⟩,?_,M.trans (Ev.of_sub I _),?_⟩
  ·have:Sat G ((κ++D)++ρ) w':=by rwa [append_assoc]
   exact this.subN SubN.appR
  ·simp only[Rep]at E ⊢
   obtain⟨O,J,T,V⟩:=E
   exact⟨O,J,T,FrzL.rep F Y V⟩⟩
theorem ag.freezeL {k:FuncId} {args:List AV} {σ:Store} {e:TypeId} {sz:Nat} {rows:List (List AV)} {R1:Store->Prop} (h:ag G P k args σ (λr σ'=>∃κ D,bD e sz rows r κ/\σ'=κ++D/\R1 D)):ag G P k args σ (λr σ'=>r= .lst sz rows/\R1 σ'):=
 ⟨h.1,λρ w vs V T=>(h.2 ρ w vs V T).mono λen w' ⟨v,r,σ',X,⟨κ,D,Y,N,O⟩,F,J,E⟩=>by
  subst N
  rw[append_assoc]at F E
  have I:Sub D (κ++D):=λq M=>mem_append.2 (.inr M)
  refine⟨v,.lst sz rows,D,X,⟨rfl,O⟩,?_,J.trans (Ev.of_sub I _),?_⟩
  ·have:Sat G ((κ++D)++ρ) w':=by rwa [append_assoc]
   exact this.subN SubN.appR
  ·exact Y.freeze F (λq M=>M) E⟩
end
end Go.Av
