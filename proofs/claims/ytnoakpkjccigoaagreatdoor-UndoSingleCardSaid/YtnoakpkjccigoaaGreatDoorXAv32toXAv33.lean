/-
  ABSTRACT VALUES, 32: slices over cells of the call's own, at any offset: cut, grown, copied, cleared.
-/
import Derived.Test.YtnoakpkjccigoaaGreatDoorXP8toXAv31
import Derived.Lib.AppendZerosOnto
namespace Go.Av
open Go Go.RowKit List
set_option linter.unusedSimpArgs false
set_option linter.unusedVariables false
structure RowsAt (sz:Nat) (cs:List AV) (o n:Nat) (rows:List (List AV)):Prop where
 len:rows.length=n
 row:∀r∈rows,r.length=sz
 fit:o+n*sz<=cs.length
 eq:(cs.drop o).take (n*sz)=rows.flatten
theorem gN {sz:Nat}:∀{rows:List (List AV)} {n:Nat},(∀r∈rows,r.length=sz)->(rows.take n).flatten=rows.flatten.take (n*sz)
 |[],n,_=>by simp
 |r::rows,0,_=>by simp
 |r::rows,n+1,h=>by
  have h1:=h r (by simp)
  have hle:r.length<=(n+1)*sz:=by rw[h1,Nat.add_mul];omega
  have he:(n+1)*sz-r.length=n*sz:=by rw[h1,Nat.add_mul];omega
  rw[take_succ_cons,flatten_cons,flatten_cons,gN (λq hq=>h q (mem_cons_of_mem _ hq)),take_append,take_of_length_le hle,he]
theorem lN {sz:Nat}:∀{rows:List (List AV)} {n:Nat},(∀r∈rows,r.length=sz)->(rows.drop n).flatten=rows.flatten.drop (n*sz)
 |[],n,_=>by simp
 |r::rows,0,_=>by simp
 |r::rows,n+1,h=>by
  have h1:=h r (by simp)
  have hle:r.length<=(n+1)*sz:=by rw[h1,Nat.add_mul];omega
  have he:(n+1)*sz-r.length=n*sz:=by rw[h1,Nat.add_mul];omega
  rw[drop_succ_cons,flatten_cons,lN (λq hq=>h q (mem_cons_of_mem _ hq)),drop_append,drop_of_length_le hle,nil_append,he]
theorem RowsAt.cut {sz:Nat} {rows:List (List AV)} {pad:List AV} (h:∀r∈rows,r.length=sz) {l k:Nat} (hk:l+k<=rows.length):RowsAt sz (rows.flatten++pad) (l*sz) k ((rows.drop l).take k):=by
 have hl:=au rows h
 have hm:l*sz+k*sz<=rows.length*sz:=by rw[←Nat.add_mul];exact Nat.mul_le_mul_right _ hk
 refine⟨by rw[length_take,length_drop];omega,λr hr=>h r (mem_of_mem_drop (mem_of_mem_take hr)),by rw[length_append];omega,?_⟩
 rw[gN (λr hr=>h r (mem_of_mem_drop hr)),lN h,drop_append_of_le_length (by omega),take_append_of_le_length (by rw[length_drop];omega)]
def srcO (σ:Store) (sz:Nat) (x:AV) (ys:List (List AV)):Prop:=
 srcX sz x (λl=>l=ys)\/∃b o n c e cs,x= .sc (.slice (some ⟨b,o,none⟩) n c)/\σ.get b=some (.cells e cs)/\RowsAt sz cs o n ys
section
variable {G:Glob} {P:Program} {σ ρ:Store} {w:World} {env:Env} {K:AV->Store->Prop}
theorem nw {sz:Nat} {x:AV} {u:Value} {ys:List (List AV)} (hS:Sat G (σ++ρ) w) (hx:Rep (σ++ρ) w x u) (h:srcO σ sz x ys):
  ∃base c news,u= .slice base ys.length c/\news.length=ys.length*sz/\RepL (σ++ρ) w ys.flatten news/\(∀v∈news,v.oneCell'=true)/\(∀r∈ys,r.length=sz)/\(base=none->ys=[])/\
   ∀a,base=some a->∀j v,news[j]? =some v->w.cell? (a.add j)=some v:=by
 have nilCase:ys=[]->u= .slice none 0 0->_:=λh0 hu=>(⟨none,0,[],by rw[h0,hu];rfl,by rw[h0];simp,by rw[h0];simp[RepL],by simp,by rw[h0];simp,λ_=>h0,(λa ha=>by cases ha)⟩:∃base c news,u= .slice base ys.length c/\news.length=ys.length*sz/\RepL (σ++ρ) w ys.flatten news/\(∀v∈news,v.oneCell'=true)/\(∀r∈ys,r.length=sz)/\(base=none->ys=[])/\
   ∀a,base=some a->∀j v,news[j]? =some v->w.cell? (a.add j)=some v)
 have rowsCase:∀(ad:Addr) (cap:Nat),u= .slice (some ad) ys.length cap->ar (σ++ρ) w ad sz 0 ys->∃base c news,u= .slice base ys.length c/\news.length=ys.length*sz/\RepL (σ++ρ) w ys.flatten news/\(∀v∈news,v.oneCell'=true)/\(∀r∈ys,r.length=sz)/\(base=none->ys=[])/\
   ∀a,base=some a->∀j v,news[j]? =some v->w.cell? (a.add j)=some v:=by
  intro ad cap hu hr
  obtain⟨vs,l1,l2,l3,l4⟩:=hr.vals
  exact⟨some ad,cap,vs,hu,l1,l2,l3,hr.flat.2.2,(λh=>by cases h),(λa ha=>by injection ha with ha;subst ha;exact l4)⟩
 rcases h with h|⟨b,o,n,c,e,cs,rfl,hg,hr⟩
 ·unfold srcX at h
  split at h
  ·simp only[Rep]at hx;exact nilCase h.symm hx
  ·obtain⟨rfl,rfl⟩:=h
   simp only[Rep]at hx
   rcases hx with⟨hx,h0⟩|⟨ad,cap,hx,_,_,hr⟩
   ·exact nilCase h0 hx
   ·exact rowsCase ad cap hx hr
  ·rename_i g e sz' rows
   obtain⟨rfl,rfl⟩:=h
   cases g with
   |none=>simp only[Rep]at hx;exact nilCase hx.2 hx.1
   |some b=>simp only[Rep]at hx;obtain⟨cap,hx,_,_,_,hr⟩:=hx;exact rowsCase _ cap hx hr
  ·exact h.elim
 ·obtain⟨h1,h2,h3,h4⟩:=hr
  subst h1
  simp only[Rep]at hx
  subst hx
  obtain⟨vs,hh,hone,hrep⟩:=hS.obj b _ (mem_append.2 (.inl (Store.get_mem hg)))
  have hvl:=hrep.length
  have hr:=RepL.take (ys.length*sz) (RepL.drop o hrep)
  rw[h4]at hr
  refine⟨some ⟨b,o,none⟩,c,_,rfl,?_,hr,λv hv=>hone v (mem_of_mem_drop (mem_of_mem_take hv)),h2,(λh=>by cases h),λa ha j v hj=>?_⟩
  ·rw[length_take,length_drop,hvl];omega
  ·injection ha with ha
   subst ha
   rw[getElem?_take]at hj
   split at hj
   ·rw[add_lit,cell_of_row w b (o+j) vs e (0,0) hh]
    rw[getElem?_drop]at hj
    simpa using hj
   ·cases hj
theorem srcO_ok {sz:Nat} {x:AV} {u:Value} {tx e':TypeId} {ys:List (List AV)} (hk:P.underlying tx=some (.slice e')) (hS:Sat G (σ++ρ) w) (hx:Rep (σ++ρ) w x u) (h:srcO σ sz x ys):
  ∃news,Src P sz tx u ys.length news w/\RepL (σ++ρ) w ys.flatten news/\∀r∈ys,r.length=sz:=by
 obtain⟨base,c,news,rfl,h1,h2,h3,h4,h5,h6⟩:=nw hS hx h
 cases base with
 |none=>
  have h0:=h5 rfl
  subst h0
  have:news=[]:=eq_nil_of_length_eq_zero (by rw[h1];simp)
  subst this
  exact⟨[],Src.ofNil w hk c,h2,h4⟩
 |some a=>exact⟨news,Src.ofSlice w hk a _ c news h1 (h6 a rfl) h3,h2,h4⟩
theorem ip {t tx ty e:TypeId} {i:TypeInfo} (ht:P.underlying t=some (.slice e)) (hi:P.info? e=some i) {b off sLen sCap:Nat} {cur:Array Value} {e':TypeId} (hg:w.heap[b]? =some (.cells cur e' (0,0)))
  {x:Value} {n:Nat} {news:List Value} (hs:Src P i.size tx x n news w) (hroom:sLen+n<=sCap) (hfit:off+sLen*i.size+news.length<=cur.size):
  (Builtin.append_ #[t,tx] ty #[.slice (some ⟨b,off,none⟩) sLen sCap,x]).run P w=
   .ok (.slice (some ⟨b,off,none⟩) (sLen+n) sCap) (w.setRow b (cur.toList.take (off+sLen*i.size)++news++cur.toList.drop (off+sLen*i.size+news.length)).toArray):=by
 have hst:=run_storeCells_at P b (off+sLen*i.size) e' news 0 cur w hg (by simpa using hfit) hs.one
 simp only[Nat.add_zero]at hst
 rcases hs.kind with⟨e'',hk⟩|hk<;>simp[Builtin.append_,run_underlying ht,run_underlying hk,sizeOf,typeInfo,hi,hs.len,hroom,hs.cells,Addr.add_lit,hst]
theorem nb {b o n sz:Nat} {e:TypeId} {cs:List AV} {rows:List (List AV)} (hS:Sat G (σ++ρ) w) (hg:σ.get b=some (.cells e cs)) (hr:RowsAt sz cs o n rows):
  ∃vs,w.heap[b]? =some (.cells vs e (0,0))/\vs.size=cs.length/\((vs.toList.drop o).take (n*sz)).length=n*sz/\RepL (σ++ρ) w rows.flatten ((vs.toList.drop o).take (n*sz))/\(∀v∈(vs.toList.drop o).take (n*sz),v.oneCell'=true)/\
   ∀j v,((vs.toList.drop o).take (n*sz))[j]? =some v->w.cell? ((⟨b,o,none⟩:Addr).add j)=some v:=by
 obtain⟨vs,hh,hone,hrep⟩:=hS.obj b _ (mem_append.2 (.inl (Store.get_mem hg)))
 have hvl:=hrep.length
 have hrr:=RepL.take (n*sz) (RepL.drop o hrep)
 rw[hr.eq]at hrr
 have:=hr.fit
 refine⟨vs,hh,by simpa using hvl,?_,hrr,λv hv=>hone v (mem_of_mem_drop (mem_of_mem_take hv)),λj v hj=>?_⟩
 ·rw[length_take,length_drop,hvl];omega
 ·rw[getElem?_take]at hj
  split at hj
  ·rw[add_lit,cell_of_row w b (o+j) vs e (0,0) hh]
   rw[getElem?_drop]at hj
   simpa using hj
  ·cases hj
theorem eL {t tx e e':TypeId} {sz bytes b o n cap:Nat} {x y:Operand} {rows ys:List (List AV)} {cs z:List AV}
  (hu:P.underlying t=some (.slice e)) (hk:P.underlying tx=some (.slice e')) (hi:(P.info? e).map (λi=>(i.size,i.bytes))=some (sz,bytes)) (hz:cK P e=some z) (hzl:z.length=sz) (hpos:sz≠0) (hb0:bytes≠0)
  (hxv:(SOpd.of x).eval G env= .sc (.slice (some ⟨b,o,none⟩) n cap)) (hg:σ.get b=some (.cells e cs)) (hrow:RowsAt sz cs o n rows) (hcap:o+cap*sz<=cs.length)
  (hys:srcO σ sz ((SOpd.of y).eval G env) ys) (hbytes:(n+ys.length)*bytes<=140737488355328)
  (hk0:n+ys.length<=cap->K (.sc (.slice (some ⟨b,o,none⟩) (n+ys.length) cap)) (σ.set b (.cells e (aH cs (o+n*sz) ys.flatten))))
  (hk1:cap<n+ys.length->∀b' cap' pad,b'∉σ.keys->n+ys.length<=cap'->cap'<=maxLen->(∀r∈rows++ys,r.length=sz)->((rows++ys).flatten++pad).length=cap'*sz->
   K (.sc (.slice (some ⟨b',0,none⟩) (n+ys.length) cap')) ((b',.cells e ((rows++ys).flatten++pad))::σ)):RAW G P (.call (.mk (.builtin .append) #[x,y] #[t,tx])) env σ K ⟨⟩:=by
 intro ρ w a op ho hS hE
 have hx:=ao (G:=G) hS hE x
 have hy:=ao (G:=G) hS hE y
 rw[hxv]at hx
 simp only[Rep]at hx
 obtain⟨i,hI,hsb⟩:=Option.map_eq_some_iff.1 hi
 simp only[Prod.mk.injEq]at hsb
 obtain⟨hi1,hi2⟩:=hsb
 obtain⟨i',zv,hi',hzv,hzr,hz1⟩:=cG (τ:=σ++ρ) (w:=w) hz
 rw[hI]at hi';cases hi'
 have hzs:zv.cells.size=sz:=by have:=hzr.length;simp at this;omega
 have hop:∀{v:Value} {w':World},(Builtin.append_ #[t,tx] op.type #[a.eval x,a.eval y]).run P w= .ok v w'->(execOp a.eval op).run P w= .ok (.value v) w':=by
  intro v w' hr
  simp[execOp,ho,resolve,invoke,builtin,hr]
 obtain⟨news,hsrc,hrn,hyl⟩:=srcO_ok hk hS hy hys
 have hnl:=hsrc.newsLen
 subst hi1 hi2
 obtain⟨vs,hh,hvs,hol,hro,ho1,hcell⟩:=nb hS hg hrow
 by_cases hroom:n+ys.length<=cap
 ·have hfit:o+n*i.size+ys.flatten.length<=cs.length:=by
   have:=Nat.mul_le_mul_right i.size hroom
   rw[au _ hyl];rw[Nat.add_mul]at this;omega
  obtain⟨vs2,hh2,hsz,hev,hS'⟩:=hS.setRow hg hrn hsrc.one (off:=o+n*i.size) hfit
  have hr:=ip (P:=P) (ty:=op.type) (off:=o) hu hI hh2 hsrc hroom (by rw[hsz,hnl,←au _ hyl];exact hfit)
  rw[←hx]at hr
  exact⟨_,_,_,_,.inl (hop hr),hk0 hroom,hS',hev,by simp only[Rep]⟩
 ·have hlt:cap<n+ys.length:=by omega
  have h63:n+ys.length<=maxLen:=by
   have:=Nat.le_mul_of_pos_right (n+ys.length) (Nat.pos_of_ne_zero hb0)
   unfold maxLen;omega
  have hfc:=run_firstCells_some (P:=P) w.drew i.size n ⟨b,o,none⟩ n cap _ hol (λj v hj=>by have:=hcell j v hj;exact this)
  have hr:=run_append_grow_src (P:=P) w t tx op.type e i zv hu hI hzv (some ⟨b,o,none⟩) n cap _ hfc (a.eval y) ys.length news hsrc hlt (by unfold maxLen at h63;omega) (growslice_fits hlt hbytes)
  rw[←hx]at hr
  have hge:=grownCap_ge w (n+ys.length) cap e
  have hcm:=grownCap_le_maxLen w (n+ys.length) cap e h63
  generalize grownCap w (n+ys.length) cap e=c2 at hr hge hcm
  generalize holds:(vs.toList.drop o).take (n*i.size)=olds at hr hol hro ho1
  let C:Array Value:=(olds++news).toArray++Builtin.zeroCells zv.cells (c2-(n+ys.length))
  have hBe:w.heap.size∉σ.keys:=λhm=>Nat.lt_irrefl _ (hS.lt_left hm)
  let Z:=(Builtin.zeroCells zv.cells (c2-(n+ys.length))).toList
  have hrl2:∀r∈rows++ys,r.length=i.size:=λr hr=>by rcases mem_append.1 hr with hr|hr<;>first|exact hrow.row r hr|exact hyl r hr
  have hfl:=au _ hrl2
  have hlen:(rows++ys).length=n+ys.length:=by rw[length_append,hrow.len]
  have hk2:=hk1 hlt w.heap.size c2 (List.replicate Z.length .any) hBe hge hcm hrl2 (by
   have:Z.length=(c2-(n+ys.length))*i.size:=by simp[Z,size_zeroCells,hzs]
   rw[length_append,hfl,length_replicate,this,hlen,←Nat.add_mul]
   congr 1;omega)
  have s2:Sat G (σ++ρ) w.drew:=hS.step Ev.drew hS.nodup_left (λb hb=>.inl hb) (λb q hq=>(hS.obj b q (mem_append.2 (.inl hq))).keep Ev.drew rfl)
  have ev1:Ev σ w σ w.drew:=Ev.drew
  have ev2:Ev σ w.drew ((w.heap.size,.cells e ((rows++ys).flatten++List.replicate Z.length .any))::σ) (w.drew.alloc (.cells C e)):=Ev.alloc (σ:=σ) (w:=w.drew) _ _
  have ev:=ev1.trans ev2
  have s3:=s2.alloc (.cells C e) (.cells e ((rows++ys).flatten++List.replicate Z.length .any)) ⟨C,heap_alloc_new w.drew _,by
    intro v hv
    simp only[C,Array.toList_append,mem_append]at hv
    rcases hv with(hv|hv)|hv
    ·exact ho1 v hv
    ·exact hsrc.one v hv
    ·exact hz1 _ (cv hv),by
    have h9:=RepL.append (RepL.ev ev _ _ hro) (RepL.ev ev _ _ hrn)
    rw[←flatten_append]at h9
    have h10:=RepL.append h9 (RepL.any _ _ Z)
    rw[show C.toList=olds++news++Z by simp only[C,Z,Array.toList_append]]
    exact h10⟩
  exact⟨_,_,_,_,.inl (hop hr),hk2,s3,ev,by simp only[Rep]⟩
theorem fN {z:Array Value} (hz:0<z.size) (c:Nat):(Builtin.zeroCells z c).toList=(List.replicate c z.toList).flatten:=fS hz c
theorem jD {t tn e:TypeId} {sz bytes b o n cap k:Nat} {x y:Operand} {rows:List (List AV)} {cs z:List AV} {kq kn:IntKind}
  (hu:P.underlying t=some (.slice e)) (hk:P.underlying tn=some (.int kn)) (hi:(P.info? e).map (λi=>(i.size,i.bytes))=some (sz,bytes)) (hz:cK P e=some z) (hzl:z.length=sz) (hpos:sz≠0) (hb0:bytes≠0)
  (hxv:(SOpd.of x).eval G env= .sc (.slice (some ⟨b,o,none⟩) n cap)) (hg:σ.get b=some (.cells e cs)) (hrow:RowsAt sz cs o n rows)
  (hyv:(SOpd.of y).eval G env= .int kq (k:Nat)) (hk0:0<k) (hlt:cap<n+k) (hbytes:(n+k)*bytes<=140737488355328)
  (hk1:∀b' cap' pad,b'∉σ.keys->n+k<=cap'->cap'<=maxLen->(rows.flatten++((List.replicate k z).flatten++pad)).length=cap'*sz->
   K (.sc (.slice (some ⟨b',0,none⟩) (n+k) cap')) ((b',.cells e (rows.flatten++((List.replicate k z).flatten++pad)))::σ)):RAW G P (.call (.mk (.builtin .append) #[x,y] #[t,tn])) env σ K ⟨⟩:=by
 intro ρ w a op ho hS hE
 have hx:=ao (G:=G) hS hE x
 have hy:=ao (G:=G) hS hE y
 rw[hxv]at hx
 rw[hyv]at hy
 simp only[Rep]at hx hy
 obtain⟨i,hI,hsb⟩:=Option.map_eq_some_iff.1 hi
 simp only[Prod.mk.injEq]at hsb
 obtain⟨hi1,hi2⟩:=hsb
 obtain⟨i',zv,hi',hzv,hzr,hz1⟩:=cG (τ:=σ++ρ) (w:=w) hz
 rw[hI]at hi';cases hi'
 have hzs:zv.cells.size=sz:=by have:=hzr.length;simp at this;omega
 subst hi1 hi2
 obtain⟨vs,hh,hvs,hol,hro,ho1,hcell⟩:=nb hS hg hrow
 have h63:n+k<=maxLen:=by
  have:=Nat.le_mul_of_pos_right (n+k) (Nat.pos_of_ne_zero hb0)
  unfold maxLen;omega
 have hfc:=run_firstCells_some (P:=P) w.drew i.size n ⟨b,o,none⟩ n cap _ hol (λj v hj=>by have:=hcell j v hj;exact this)
 have hr:=Lib.run_append_grow_zeros (P:=P) w t tn op.type e i zv kq kn hu hk hI hzv (some ⟨b,o,none⟩) n cap _ hfc k hk0 (by omega) hlt (by unfold maxLen at h63;omega) (by rw[Nat.add_mul]at hbytes;omega) (growslice_fits hlt hbytes)
 rw[←hx,←hy]at hr
 have hge:=grownCap_ge w (n+k) cap e
 have hcm:=grownCap_le_maxLen w (n+k) cap e h63
 generalize grownCap w (n+k) cap e=c2 at hr hge hcm
 generalize holds:(vs.toList.drop o).take (n*i.size)=olds at hr hol hro ho1
 let C:Array Value:=olds.toArray++Builtin.zeroCells zv.cells k++Builtin.zeroCells zv.cells (c2-(n+k))
 have hBe:w.heap.size∉σ.keys:=λhm=>Nat.lt_irrefl _ (hS.lt_left hm)
 let Z:=(Builtin.zeroCells zv.cells (c2-(n+k))).toList
 have hfl:=au _ hrow.row
 have hk2:=hk1 w.heap.size c2 (List.replicate Z.length .any) hBe hge hcm (by
  have:Z.length=(c2-(n+k))*i.size:=by simp[Z,size_zeroCells,hzs]
  rw[length_append,length_append,hfl,cb,length_replicate,this,hrow.len,hzl,←Nat.add_mul,←Nat.add_mul]
  congr 1;omega)
 have s2:Sat G (σ++ρ) w.drew:=hS.step Ev.drew hS.nodup_left (λb hb=>.inl hb) (λb q hq=>(hS.obj b q (mem_append.2 (.inl hq))).keep Ev.drew rfl)
 have ev1:Ev σ w σ w.drew:=Ev.drew
 have ev2:Ev σ w.drew ((w.heap.size,.cells e (rows.flatten++((List.replicate k z).flatten++List.replicate Z.length .any)))::σ) (w.drew.alloc (.cells C e)):=Ev.alloc (σ:=σ) (w:=w.drew) _ _
 have ev:=ev1.trans ev2
 have hZk:(Builtin.zeroCells zv.cells k).toList=(List.replicate k zv.cells.toList).flatten:=fN (by omega) k
 have s3:=s2.alloc (.cells C e) (.cells e (rows.flatten++((List.replicate k z).flatten++List.replicate Z.length .any))) ⟨C,heap_alloc_new w.drew _,by
   intro v hv
   simp only[C,Array.toList_append,mem_append]at hv
   rcases hv with(hv|hv)|hv
   ·exact ho1 v hv
   ·exact hz1 _ (cv hv)
   ·exact hz1 _ (cv hv),by
   have h9:=RepL.append (RepL.ev ev _ _ hro) (RepL.append (RepL.ev ev _ _ (gI hzr k)) (RepL.any _ _ Z))
   rw[show C.toList=olds++((List.replicate k zv.cells.toList).flatten++Z)by simp only[C,Z,Array.toList_append,hZk,append_assoc]]
   exact h9⟩
 refine⟨.slice (some ⟨w.heap.size,0,none⟩) (n+k) c2,_,_,_,.inl ?_,hk2,s3,ev,by simp only[Rep]⟩
 simp[execOp,ho,resolve,invoke,builtin,hr]
 simp[C,Array.append_assoc]
theorem lY {dT sT elem e:TypeId} {b o dl dc sz:Nat} {x y:Operand} {cs:List AV} {ys:List (List AV)} (hu:P.underlying dT=some (.slice elem)) (hsz:(P.info? elem).map (·.size)=some sz)
  (hxv:(SOpd.of x).eval G env= .sc (.slice (some ⟨b,o,none⟩) dl dc)) (hg:σ.get b=some (.cells e cs)) (hys:srcO σ sz ((SOpd.of y).eval G env) ys) (hfit:o+min ys.length dl*sz<=cs.length)
  (hk0:min ys.length dl=0->K (.int .i64 0) σ) (hk:min ys.length dl≠0->K (.int .i64 (min ys.length dl:Nat)) (σ.set b (.cells e (aH cs o (ys.take (min ys.length dl)).flatten)))):
  RAW G P (.call (.mk (.builtin .copy) #[x,y] #[dT,sT])) env σ K ⟨⟩:=by
 intro ρ w a op ho hS hE
 have hx:=ao (G:=G) hS hE x
 have hy:=ao (G:=G) hS hE y
 rw[hxv]at hx
 simp only[Rep]at hx
 obtain⟨base,c,news,h0,h1,h2,h3,h4,h5,h6⟩:=nw hS hy hys
 by_cases hm:min ys.length dl=0
 ·have hrun:=kB (P:=P) w dT sT op.type elem (some ⟨b,o,none⟩) base dl dc ys.length c sz hu hsz hm
  rw[←hx,←h0]at hrun
  refine⟨goInt 0,_,.int .i64 0,_,.inl ?_,hk0 hm,hS,Ev.refl _ _,by simp[Rep,goInt]⟩
  simp[execOp,ho,resolve,invoke,builtin,hrun]
 ·cases base with
  |none=>rw[h5 rfl]at hm;simp at hm
  |some ad=>
   have hml:min ys.length dl*sz<=ys.length*sz:=Nat.mul_le_mul_right _ (Nat.min_le_left _ _)
   have hr:RepL (σ++ρ) w (ys.take (min ys.length dl)).flatten (news.take (min ys.length dl*sz)):=by rw[gN h4];exact RepL.take _ h2
   have hnl:(news.take (min ys.length dl*sz)).length=min ys.length dl*sz:=by rw[length_take,h1];omega
   have hone:∀v∈news.take (min ys.length dl*sz),v.oneCell'=true:=λv hv=>h3 v (mem_of_mem_take hv)
   have hfl:(ys.take (min ys.length dl)).flatten.length=min ys.length dl*sz:=by rw[au _ (λr hr=>h4 r (mem_of_mem_take hr)),length_take];congr 1;omega
   obtain⟨vs,hh,hvs,hev,hS'⟩:=hS.setRow hg hr hone (off:=o) (by rw[hfl];exact hfit)
   have hrun:=lg (P:=P) w dT sT op.type elem b o dl dc sz ad ys.length c vs e (news.take (min ys.length dl*sz)) hu hsz hh hnl (λj v hj=>h6 ad rfl j v (by
    rw[getElem?_take]at hj
    split at hj
    ·exact hj
    ·cases hj)) (by rw[hnl,hvs];exact hfit) hone
   rw[←hx,←h0]at hrun
   refine⟨goInt (min ys.length dl:Nat),_,.int .i64 (min ys.length dl:Nat),_,.inl ?_,hk hm,hS',hev,by simp[Rep,goInt]⟩
   simp[execOp,ho,resolve,invoke,builtin,hrun]
theorem o5 {t elem e:TypeId} {b o n c sz:Nat} {x:Operand} {cs z:List AV} (hu:P.underlying t=some (.slice elem)) (hz:cK P elem=some z) (hzl:z.length=sz) (hpos:sz≠0)
  (hxv:(SOpd.of x).eval G env= .sc (.slice (some ⟨b,o,none⟩) n c)) (hg:σ.get b=some (.cells e cs)) (hfit:o+n*sz<=cs.length)
  (hk0:n=0->K .any σ) (hk:n≠0->K .any (σ.set b (.cells e (aH cs o (List.replicate n z).flatten)))):
  RAW G P (.call (.mk (.builtin .clear) #[x] #[t])) env σ K ⟨⟩:=by
 intro ρ w a op ho hS hE
 have hx:=ao (G:=G) hS hE x
 rw[hxv]at hx
 simp only[Rep]at hx
 obtain⟨i,zv,hi,hzv,hzr,hz1⟩:=cG (τ:=σ++ρ) (w:=w) hz
 have hzs:zv.cells.size=sz:=by have:=hzr.length;simp at this;omega
 by_cases hn:n=0
 ·subst hn
  have hrun:(Builtin.clear_ #[t] op.type #[a.eval x]).run P w= .ok (.tuple #[]) w:=by
   rw[hx];simp[Builtin.clear_,run_underlying hu]
  refine⟨.tuple #[],w,.any,_,.inl ?_,hk0 rfl,hS,Ev.refl _ _,by simp only[Rep]⟩
  simp[execOp,ho,resolve,invoke,builtin,hrun]
 ·have hZ:(Builtin.zeroCells zv.cells n).toList=(List.replicate n zv.cells.toList).flatten:=fN (by omega) n
  have hr:=gI hzr n
  have hone:∀v∈(List.replicate n zv.cells.toList).flatten,v.oneCell'=true:=λv hv=>by rw[←hZ]at hv;exact hz1 _ (cv hv)
  obtain⟨vs,hh,hvs,hev,hS'⟩:=hS.setRow hg hr hone (off:=o) (by rw[cb,hzl];exact hfit)
  have hzl2:zv.cells.toList.length=sz:=by simpa using hzs
  have hst:=run_storeCells_at P b o e (List.replicate n zv.cells.toList).flatten 0 vs w hh (by rw[cb,hzl2,hvs];simpa using hfit) hone
  simp only[Nat.add_zero]at hst
  have hrun:(Builtin.clear_ #[t] op.type #[a.eval x]).run P w= .ok (.tuple #[]) (w.setRow b (vs.toList.take o++(List.replicate n zv.cells.toList).flatten++vs.toList.drop (o+(List.replicate n zv.cells.toList).flatten.length)).toArray):=by
   obtain⟨m,rfl⟩:∃m,n=m+1:=⟨n-1,by omega⟩
   rw[hx]
   simp[Builtin.clear_,run_underlying hu,zeroValue,typeInfo,hi,hzv,hZ,hst]
  refine⟨.tuple #[],_,.any,_,.inl ?_,hk hn,hS',hev,by simp only[Rep]⟩
  simp[execOp,ho,resolve,invoke,builtin,hrun]
theorem nU {x:Operand} {tx e:TypeId} {base:Option Addr} {n c:Nat} (hx:(SOpd.of x).eval G env= .sc (.slice base n c)) (hu:P.underlying tx=some (.slice e))
  (hk:K (.int .i64 c) σ):RAW G P (.call (.mk (.builtin .cap) #[x] #[tx])) env σ K ⟨⟩:=by
 refine cW _ (λρ w a op ho hS hE=>?_) hk
 have h1:=ao hS hE x
 rw[hx]at h1
 simp only[Rep]at h1
 refine⟨.int .i64 c,?_,by simp only[Rep]⟩
 simp[execOp,ho,resolve,invoke,builtin,h1,Builtin.cap_,run_underlying hu]
 try rfl
def bndO (G:Glob) (env:Env) (y:Option Operand) (d v:Nat):Prop:=match y with
 |none=>v=d
 |some y=>∃k,(SOpd.of y).eval G env= .int k (v:Nat)
theorem oJ {t e:TypeId} {x:Operand} {lo hi mx:Option Operand} {l h m b o n cap sz:Nat} (hu:P.underlying t=some (.slice e)) (hn:(P.info? e).map (·.size)=some sz)
  (hx:(SOpd.of x).eval G env= .sc (.slice (some ⟨b,o,none⟩) n cap)) (hlo:bndO G env lo 0 l) (hhi:bndO G env hi n h) (hmx:bndO G env mx cap m) (hmh:mx.isSome=true->hi.isSome=true) (h1:l<=h) (h2:h<=m) (h3:m<=cap)
  (hk:K (.sc (.slice (some ⟨b,if m=l then o else o+l*sz,none⟩) (h-l) (m-l))) σ):RAW G P (.slice t x lo hi mx) env σ K ⟨⟩:=by
 refine cW _ (λρ w a op ho hS hE=>?_) hk
 have hv:=ao (G:=G) hS hE x
 rw[hx]at hv
 simp only[Rep]at hv
 obtain⟨i,hi',his⟩:=Option.map_eq_some_iff.1 hn
 refine⟨_,?_,by simp only[Rep];rfl⟩
 have ev:∀{y:Operand} {k:IntKind} {v:Nat},(SOpd.of y).eval G env= .int k (v:Nat)->a.eval y= .int k (v:Nat):=by
  intro y k v hy
  have:=ao (G:=G) hS hE y
  rw[hy]at this
  simpa only[Rep]using this
 have c1:l<=m:=by omega
 have c2:h<=cap:=by omega
 cases lo<;>cases hi<;>cases mx<;>simp only[bndO,Option.isSome,Bool.false_eq_true,forall_const,implies_true,reduceCtorEq]at hlo hhi hmx hmh
 all_goals(
  try obtain⟨k1,hlo⟩:=hlo
  try obtain⟨k2,hhi⟩:=hhi
  try obtain⟨k3,hmx⟩:=hmx
  try subst hlo
  try subst hhi
  try subst hmx
  try have e1:=ev hlo
  try have e2:=ev hhi
  try have e3:=ev hmx
  simp_all[execOp,Instr.sliceAt,Instr.slice,run_underlying hu,Instr.sliceBounds,Instr.sliceBound,asIntOf,sizeOf,typeInfo,add_lit]
  try(split<;>rfl))
end
section
variable {G:Glob} {P:Program}
theorem fnAt_ex {k:Nat} {g:List Nat} {ts:List (Nat×Option (Bool×Nat))} {s:SCode} (hk:fnAt P k g=some (ts,s)):
  ∃fn,P.funcs[k]? =some fn/\(fn.name== "runtime.NumGoroutine")=false/\fn.body.isNone=false:=by
 unfold fnAt at hk
 cases hf:P.funcs[k]? with
 |none=>rw[hf]at hk;cases hk
 |some fn=>
  rw[hf]at hk
  have hk:ku P g fn=some (ts,s):=hk
  unfold ku at hk
  split at hk
  ·cases hk
  ·rename_i hn
   split at hk
   ·rename_i c ts' hb hr
    exact⟨fn,rfl,by simpa using hn,by rw[hb];rfl⟩
   ·cases hk
theorem ag.wn {k:Nat} {g:List Nat} {ts:List (Nat×Option (Bool×Nat))} {s:SCode} {args:List AV} {σ:Store} {R:AV->Store->Prop} (hk:fnAt P k g=some (ts,s))
  (h:σ.keys.Nodup->W G P s (retQ ts R) (cL 0 args) σ ⟨⟩):ag G P k args σ R:=by
 by_cases hn:σ.keys.Nodup
 ·exact ag.w hk (h hn)
 ·exact⟨fnAt_ex hk,λρ w vs hS _=>absurd hS.nodup_left hn⟩
theorem Ev.cells1 {b:Nat} {e:TypeId} {cs cs':List AV} (w:World):Ev [(b,.cells e cs)] w [(b,.cells e cs')] w:=
 ⟨rfl,rfl,rfl,Nat.le_refl _,λ_ _ hn=>⟨rfl,hn⟩,λ_ _ h=>h,λa v hv hm=>⟨hv,λ⟨x,hx,_⟩=>hm (by
  simp only[mem_singleton]at hx
  obtain⟨h1,h2⟩:=Prod.mk.inj hx
  exact⟨.cells e cs,by simp[h1],trivial⟩)⟩⟩
theorem Weak.frz {env:Env} {b:Nat} {e:TypeId} {cs cs':List AV} {κ rest σ:Store} (h:FrzL κ cs cs') (hs:SubN ((b,.cells e cs)::(rest++κ)) σ):Weak G env σ env ((b,.cells e cs')::rest):=by
 intro ρ w tmps hS0 hE0
 have hS:=hS0.subN hs
 have hE:∀j,Rep ((b,.cells e cs)::(rest++κ)++ρ) w (env.get j) (tmps.getD j undef):=λj=>Rep.ev (Ev.of_sub hs.1 w) _ _ (hE0 j)
 have hnd:=hS.nodup
 have hnd1:=hS.nodup_left
 have mutback:∀{q o:Nat},Mut ((b,.cells e cs')::rest) q o->Mut ((b,.cells e cs)::(rest++κ)) q o:=by
  rintro q o ⟨x,hx,hm⟩
  rcases mem_cons.1 hx with hx|hx
  ·obtain⟨h1,h2⟩:=Prod.mk.inj hx
   exact⟨.cells e cs,by simp[h1],trivial⟩
  ·exact⟨x,mem_cons_of_mem _ (mem_append.2 (.inl hx)),hm⟩
 have ev:Ev ((b,.cells e cs)::(rest++κ)) w ((b,.cells e cs')::rest) w:=
  ⟨rfl,rfl,rfl,Nat.le_refl _,λq _ hn=>⟨rfl,λhq=>hn (by
   simp only[Store.keys,map_cons,mem_cons,map_append,mem_append]at hq ⊢
   rcases hq with hq|hq
   ·exact .inl hq
   ·exact .inr (.inl hq))⟩,λ_ _ h=>h,λ_ _ hv hm=>⟨hv,λm=>hm (mutback m)⟩⟩
 have hkeys:(Store.keys ((b,.cells e cs')::rest)).Nodup:=by
  have:Store.keys ((b,.cells e cs)::(rest++κ))=Store.keys ((b,.cells e cs')::rest)++κ.keys:=by simp[Store.keys]
  rw[this]at hnd1
  exact(nodup_append.1 hnd1).1
 refine⟨hS.step ev hkeys (λq hq=>.inl (by
  simp only[Store.keys,map_cons,mem_cons,map_append,mem_append]at hq ⊢
  rcases hq with hq|hq
  ·exact .inl hq
  ·exact .inr (.inl hq))) (λq x hx=>?_),(Ev.of_sub hs.1 w).trans ev,λj=>Rep.ev ev _ _ (hE j)⟩
 rcases mem_cons.1 hx with hx|hx
 ·obtain⟨h1,h2⟩:=Prod.mk.inj hx
  subst h1 h2
  obtain⟨vs,hh,hone,hrep⟩:=hS.obj q (.cells e cs) (by simp)
  refine⟨vs,hh,hone,?_⟩
  have hperm:List.Perm (κ++((q,.cells e cs)::rest++ρ)) ((q,.cells e cs)::(rest++κ)++ρ):=by
   simp only[cons_append,append_assoc]
   refine(perm_middle).trans (List.Perm.cons _ ?_)
   rw[←append_assoc,←append_assoc]
   exact List.Perm.append_right _ perm_append_comm
  have hS2:Sat G (κ++((q,.cells e cs)::rest++ρ)) w:=by
   have:=Sat.subN (ρ:=[]) (by simpa using hS) (SubN.perm hperm)
   simpa using this
  have hr2:RepL (κ++((q,.cells e cs)::rest++ρ)) w cs vs.toList:=RepL.sub (λp hp=>hperm.mem_iff.1 hp) hrep
  have hr3:=FrzL.rep hS2 h hr2
  have:=RepL.ev (ρ:=rest++ρ) (Ev.cells1 (b:=q) (e:=e) (cs:=cs) (cs':=cs') w) _ _ (by simpa using hr3)
  simpa using this
 ·exact(hS.obj q x (by simp[hx])).keep ev rfl
end
theorem bD.mk {e:TypeId} {sz b cap n:Nat} {rows:List (List AV)} {pad:List AV} (hn:n=rows.length) (h1:rows.length<=cap) (h2:cap<=maxLen) (h3:∀r∈rows,r.length=sz) (h4:(rows.flatten++pad).length=cap*sz):bD e sz rows (.sc (.slice (some ⟨b,0,none⟩) n cap)) [(b,.cells e (rows.flatten++pad))]:=by
 subst hn
 exact⟨_,cap,rfl,.inr ⟨b,pad,rfl,rfl,h1,h2,h3,h4⟩⟩
section
variable {G:Glob} {P:Program}
theorem ag.freezeK {k:FuncId} {args ys:List AV} {σ:Store} {R1:Store->Prop} (h:ag G P k args σ (λr σ'=>∃xs κ σ1,r= .agg xs/\FrzL κ xs ys/\σ'=κ++σ1/\R1 σ1)):ag G P k args σ (λr σ'=>r= .agg ys/\R1 σ'):=
 ⟨h.1,λρ w vs hS hA=>(h.2 ρ w vs hS hA).mono λe w' ⟨v,r,σ',he,⟨xs,κ,σ1,hr,hF,hσ,h1⟩,hsat,hev,hrep⟩=>by
  subst hr hσ
  rw[append_assoc]at hsat hrep
  have hsub:Sub σ1 (κ++σ1):=λq hq=>mem_append.2 (.inr hq)
  refine⟨v,.agg ys,σ1,he,⟨rfl,h1⟩,?_,hev.trans (Ev.of_sub hsub _),?_⟩
  ·have:Sat G ((κ++σ1)++ρ) w':=by rwa [append_assoc]
   exact this.subN SubN.appR
  ·simp only[Rep]at hrep ⊢
   obtain⟨vs',h1,h2,h3⟩:=hrep
   exact⟨vs',h1,h2,FrzL.rep hsat hF h3⟩⟩
theorem ag.freezeL {k:FuncId} {args:List AV} {σ:Store} {e:TypeId} {sz:Nat} {rows:List (List AV)} {R1:Store->Prop} (h:ag G P k args σ (λr σ'=>∃κ σ1,bD e sz rows r κ/\σ'=κ++σ1/\R1 σ1)):ag G P k args σ (λr σ'=>r= .lst sz rows/\R1 σ'):=
 ⟨h.1,λρ w vs hS hA=>(h.2 ρ w vs hS hA).mono λen w' ⟨v,r,σ',he,⟨κ,σ1,ho,hσ,h1⟩,hsat,hev,hrep⟩=>by
  subst hσ
  rw[append_assoc]at hsat hrep
  have hsub:Sub σ1 (κ++σ1):=λq hq=>mem_append.2 (.inr hq)
  refine⟨v,.lst sz rows,σ1,he,⟨rfl,h1⟩,?_,hev.trans (Ev.of_sub hsub _),?_⟩
  ·have:Sat G ((κ++σ1)++ρ) w':=by rwa [append_assoc]
   exact this.subN SubN.appR
  ·exact ho.freeze hsat (λq hq=>hq) hrep⟩
end
end Go.Av
