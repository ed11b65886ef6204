/-
  ABSTRACT VALUES, 29: a list still open behind its end, handed back by a call.
-/
import Derived.Test.YtjdccoplpljmlaaGreatDoorVXCY2toXAv27
import Derived.Test.YtjdccoplpljmlaaGreatDoorVXAv21toXAv25
import Derived.Lib.AppendZerosOnto
namespace Go.Av
open Go Go.RowKit List
set_option linter.unusedSimpArgs false
set_option linter.unusedVariables false
section
variable {G:Glob} {P:Program} {k:FuncId} {args:List AV} {e:TypeId} {sz:Nat} {rows:List (List AV)}
end
/-! ### rows that point nowhere -/
def AV.flat:AV->Bool
 | .bool _=>true
 | .int _ _=>true
 | .str _=>true
 |_=>false
theorem AV.flat_rep {σ σ':Store} {w w':World}:∀{x:AV} {u:Value},x.flat=true->Rep σ w x u->Rep σ' w' x u
 | .bool _,_,_,h=>by simp only[Rep]at h ⊢;exact h
 | .int _ _,_,_,h=>by simp only[Rep]at h ⊢;exact h
 | .str _,_,_,h=>by simp only[Rep]at h ⊢;exact h
section
variable {G:Glob} {P:Program} {k:FuncId} {args:List AV} {e:TypeId} {sz:Nat} {rows:List (List AV)}
end
theorem kB {α:Type} (l:List α):∀(c k:Nat),k<c*l.length->(List.replicate c l).flatten[k]? =l[k % l.length]?
 |0,k,h=>by simp at h
 |c+1,k,h=>by
  rw[replicate_succ,flatten_cons]
  by_cases E:k<l.length
  ·rw[getElem?_append_left E,Nat.mod_eq_of_lt E]
  ·rw[getElem?_append_right (by omega),kB l c (k-l.length) (by rw[Nat.add_mul]at h;omega),←Nat.mod_eq_sub_mod (by omega)]
theorem bW {α:Type} (l:List α):∀c:Nat,(List.replicate c l).flatten.length=c*l.length
 |0=>by simp
 |c+1=>by rw[replicate_succ,flatten_cons,length_append,bW l c,Nat.add_mul];omega
theorem fB {z:Array Value} (I:0<z.size) (c:Nat):(madeCells z (c*z.size)).toList=(List.replicate c z.toList).flatten:=by
 apply ext_getElem?
 intro k
 by_cases E:k<c*z.size
 ·rw[kB z.toList c k (by simpa using E)]
  have F:=Nat.mod_lt k I
  unfold madeCells
  simp[E,F,getElem!_pos z (k % z.size) F]
 ·rw[getElem?_eq_none (by simp[size_madeCells];omega),getElem?_eq_none (by rw[bW];simp;omega)]
theorem gt {τ:Store} {w:World} {zr:List AV} {us:List Value} (h:RepL τ w zr us):∀c:Nat,RepL τ w (List.replicate c zr).flatten (List.replicate c us).flatten
 |0=>by simp[RepL]
 |c+1=>by rw[replicate_succ,replicate_succ,flatten_cons,flatten_cons];exact RepL.append h (gt h c)
section
variable {G:Glob} {P:Program}
theorem lf (w:World) (V sT ty elem:TypeId) (g o E I sz:Nat) (a:Addr) (F N:Nat) (cur:Array Value) (t:TypeId) (cs:List Value)
  (hu:P.underlying V=some (.slice elem)) (X:(P.info? elem).map (·.size)=some sz)
  (Z:w.heap[g]? =some (.cells cur t (0,0))) (hn:cs.length=Nat.min F E*sz)
  (M:∀j v,cs[j]? =some v->w.cell? (a.add j)=some v) (J:o+cs.length<=cur.size) (Y:∀v∈cs,v.oneCell'=true):
  (Builtin.copy_ #[V,sT] ty #[.slice (some ⟨g,o,none⟩) E I,.slice (some a) F N]).run P w=
   .ok (goInt (Nat.min F E)) (w.setRow g (cur.toList.take o++cs++cur.toList.drop (o+cs.length)).toArray):=by
 have hl:=run_loadCells_list (P:=P) w a cs M
 have T:=run_storeCells_at P g o t cs 0 cur w Z (by simpa using J) Y
 cases O:P.info? elem with
 |none=>simp[O]at X
 |some i=>
  have hi:i.size=sz:=by simpa[O]using X
  simp[Builtin.copy_,run_underlying hu,Builtin.lenOf,Builtin.firstCells,sizeOf,typeInfo,O,hi,←hn,hl,T]
theorem kM (w:World) (M Y ty elem:TypeId) (d a:Option Addr) (E I F J sz:Nat) (X:P.underlying M=some (.slice elem)) (V:(P.info? elem).map (·.size)=some sz) (T:Nat.min F E=0):
  (Builtin.copy_ #[M,Y] ty #[.slice d E I,.slice a F J]).run P w= .ok (goInt 0) w:=by
 cases N:P.info? elem with
 |none=>simp[N]at V
 |some i=>
  have O:∀(x:Addr),(loadCells x 0).run P w= .ok #[] w:=λx=>by simpa using run_loadCells_list (P:=P) w x [] (by simp)
  cases d<;>cases a<;>simp[Builtin.copy_,run_underlying X,Builtin.lenOf,Builtin.firstCells,sizeOf,typeInfo,N,T,storeCells,O]
theorem iI {ty elem:TypeId} {i c sz bytes:Nat} {z:Value} {zr:List AV} {M:IntKind} {env:Env} {σ:Store} {K:AV->Store->Prop} (hi:env.get i= .int M (c:Nat)) (hu:P.underlying ty=some (.slice elem))
  (T:(P.info? elem).map (λi=>(i.zero,i.size,i.bytes))=some (some z,sz,bytes)) (X:z.cells.size=sz) (h0:0<sz) (I:∀v∈z.cells.toList,v.oneCell'=true) (hz:∀τ w,RepL τ w zr z.cells.toList)
  (hb:bytes*c<=281474976710656) (hc:c<1000000000)
  (hk:∀b,b∉σ.keys->K (.sc (.slice (some ⟨b,0,none⟩) c c)) ((b,.cells elem (List.replicate c zr).flatten)::σ)):RAW G P (.makeSlice ty (.tmp i) (.tmp i)) env σ K ⟨⟩:=by
 intro ρ w a op ho Y hE
 have N:=hE i
 rw[hi]at N
 simp only[Rep]at N
 obtain⟨Z,V,J⟩:=Option.map_eq_some_iff.1 T
 simp only[Prod.mk.injEq]at J
 obtain⟨g1,g2,g3⟩:=J
 have e3:a.eval (.tmp i)= .int M (c:Nat):=N
 have O:(Z.bytes:Int)*((c:Nat):Int)<=281474976710656:=by
  rw[g3,←Int.natCast_mul];omega
 have E:=run_make (P:=P) w ty elem Z z hu V g1 M M (c:Nat) (c:Nat) (by omega) (by omega) O (by omega)
 simp only[Int.toNat_natCast,g2]at E
 have F:(w.alloc (.cells (madeCells z.cells (c*sz)) elem)).heap[w.heap.size]? =some (.cells (madeCells z.cells (c*sz)) elem (0,0)):=heap_alloc_new w _
 have hl:(madeCells z.cells (c*sz)).toList=(List.replicate c z.cells.toList).flatten:=by
  rw[←X];exact fB (by omega) c
 refine⟨_,_,.sc (.slice (some ⟨w.heap.size,0,none⟩) c c),_,.inl (by simp[execOp,ho,e3,E];exact rfl),hk _ (eR Y),Y.alloc _ _ ⟨_,F,?_,?_⟩,Ev.alloc _ _,by simp only[Rep]⟩
 ·intro v hv
  exact I v (lc (by omega) hv)
 ·rw[hl]
  exact gt (hz _ _) c
end
section
variable {G:Glob} {b c cap sz:Nat} {e:TypeId} {rows:List (List AV)} {pad:List AV} {σ ρ:Store} {w:World}
theorem Rep.freeze (O:Sat G ((b,.cells e (rows.flatten++pad))::σ++ρ) w) (hr:∀r∈rows,r.length=sz) (Y:c=rows.length) (hl:rows.length<=cap) (hm:cap<=maxLen):
  Rep (σ++ρ) w (.lst sz rows) (.slice (some ⟨b,0,none⟩) c cap):=by
 subst Y
 obtain⟨vs,Z,V,E⟩:=O.obj b _ (mem_append.2 (.inl (mem_cons_self ..)))
 have I:=O.nodup
 have X:b∉(σ++ρ).keys:=by
  rw[cons_append]at I
  exact(nodup_cons.1 I).1
 have J:Sub (σ++ρ) ((b,.cells e (rows.flatten++pad))::σ++ρ):=λp hp=>mem_cons_of_mem _ hp
 have ac:=E.length
 simp only[Rep]
 refine .inr ⟨_,_,rfl,hl,hm,az.of_flat hr ?_⟩
 refine RepAt.of_get λj hj=>?_
 have M:j<(rows.flatten++pad).length:=by rw[length_append];omega
 have F:j<vs.toList.length:=by omega
 have T:=E.get j M F
 rw[getElem_append_left hj]at T
 rw[Nat.zero_mul,Nat.zero_add,add_lit,Nat.zero_add]
 have N:j<vs.size:=by simpa using F
 refine⟨vs.toList[j],⟨?_,?_⟩,V _ (getElem_mem F),Rep.sub J T⟩
 ·simp[World.cell?,Z,N]
 ·rintro⟨x,hx,_⟩
  exact X (mem_map.2 ⟨_,hx,rfl⟩)
theorem Weak.freeze {env:Env} {j:Nat} (N:env.get j= .sc (.slice (some ⟨b,0,none⟩) c cap)) (Y:∀r∈rows,r.length=sz) (M:c=rows.length) (O:rows.length<=cap) (T:cap<=maxLen):
  Weak G env ((b,.cells e (rows.flatten++pad))::σ) (env.set j (.lst sz rows)) σ:=by
 intro ρ w tmps I F
 have E:SubN σ ((b,.cells e (rows.flatten++pad))::σ):=⟨λp X=>mem_cons_of_mem _ X,λV=>(nodup_cons.1 V).2⟩
 refine⟨I.subN E,Ev.of_sub E.1 w,λi=>?_⟩
 rw[Env.get_set]
 split
 ·rename_i J
  rw[←J]
  have h:=F j
  rw[N]at h
  simp only[Rep]at h
  rw[h]
  exact Rep.freeze I Y M O T
 ·exact Rep.ev (Ev.of_sub E.1 w) _ _ (F i)
end
structure RowsAt (sz:Nat) (cs:List AV) (o n:Nat) (rows:List (List AV)):Prop where
 len:rows.length=n
 row:∀r∈rows,r.length=sz
 fit:o+n*sz<=cs.length
 eq:(cs.drop o).take (n*sz)=rows.flatten
theorem gy {sz:Nat}:∀{rows:List (List AV)} {n:Nat},(∀r∈rows,r.length=sz)->(rows.take n).flatten=rows.flatten.take (n*sz)
 |[],n,_=>by simp
 |r::rows,0,_=>by simp
 |r::rows,n+1,h=>by
  have F:=h r (by simp)
  have E:r.length<=(n+1)*sz:=by rw[F,Nat.add_mul];omega
  have I:(n+1)*sz-r.length=n*sz:=by rw[F,Nat.add_mul];omega
  rw[take_succ_cons,flatten_cons,flatten_cons,gy (λq J=>h q (mem_cons_of_mem _ J)),take_append,take_of_length_le E,I]
theorem lv {sz:Nat}:∀{rows:List (List AV)} {n:Nat},(∀r∈rows,r.length=sz)->(rows.drop n).flatten=rows.flatten.drop (n*sz)
 |[],n,_=>by simp
 |r::rows,0,_=>by simp
 |r::rows,n+1,h=>by
  have F:=h r (by simp)
  have E:r.length<=(n+1)*sz:=by rw[F,Nat.add_mul];omega
  have I:(n+1)*sz-r.length=n*sz:=by rw[F,Nat.add_mul];omega
  rw[drop_succ_cons,flatten_cons,lv (λq J=>h q (mem_cons_of_mem _ J)),drop_append,drop_of_length_le E,nil_append,I]
theorem RowsAt.cut {sz:Nat} {rows:List (List AV)} {pad:List AV} (h:∀r∈rows,r.length=sz) {l k:Nat} (F:l+k<=rows.length):RowsAt sz (rows.flatten++pad) (l*sz) k ((rows.drop l).take k):=by
 have I:=ap rows h
 have J:l*sz+k*sz<=rows.length*sz:=by rw[←Nat.add_mul];exact Nat.mul_le_mul_right _ F
 refine⟨by rw[length_take,length_drop];omega,λr E=>h r (mem_of_mem_drop (mem_of_mem_take E)),by rw[length_append];omega,?_⟩
 rw[gy (λr E=>h r (mem_of_mem_drop E)),lv h,drop_append_of_le_length (by omega),take_append_of_le_length (by rw[length_drop];omega)]
def srcO (σ:Store) (sz:Nat) (x:AV) (ys:List (List AV)):Prop:=
 srcX sz x (λl=>l=ys)\/∃b o n c e cs,x= .sc (.slice (some ⟨b,o,none⟩) n c)/\σ.get b=some (.cells e cs)/\RowsAt sz cs o n ys
section
variable {G:Glob} {P:Program} {σ ρ:Store} {w:World} {env:Env} {K:AV->Store->Prop}
theorem m8 {sz:Nat} {x:AV} {u:Value} {ys:List (List AV)} (hS:Sat G (σ++ρ) w) (M:Rep (σ++ρ) w x u) (h:srcO σ sz x ys):
  ∃F c E,u= .slice F ys.length c/\E.length=ys.length*sz/\RepL (σ++ρ) w ys.flatten E/\(∀v∈E,v.oneCell'=true)/\(∀r∈ys,r.length=sz)/\(F=none->ys=[])/\
   ∀a,F=some a->∀j v,E[j]? =some v->w.cell? (a.add j)=some v:=by
 have I:ys=[]->u= .slice none 0 0->_:=λV hu=>(⟨none,0,[],by rw[V,hu];rfl,by rw[V];simp,by rw[V];simp[RepL],by simp,by rw[V];simp,λ_=>V,(λa O=>by cases O)⟩:∃F c E,u= .slice F ys.length c/\E.length=ys.length*sz/\RepL (σ++ρ) w ys.flatten E/\(∀v∈E,v.oneCell'=true)/\(∀r∈ys,r.length=sz)/\(F=none->ys=[])/\
   ∀a,F=some a->∀j v,E[j]? =some v->w.cell? (a.add j)=some v)
 have J:∀(X:Addr) (cap:Nat),u= .slice (some X) ys.length cap->az (σ++ρ) w X sz 0 ys->∃F c E,u= .slice F ys.length c/\E.length=ys.length*sz/\RepL (σ++ρ) w ys.flatten E/\(∀v∈E,v.oneCell'=true)/\(∀r∈ys,r.length=sz)/\(F=none->ys=[])/\
   ∀a,F=some a->∀j v,E[j]? =some v->w.cell? (a.add j)=some v:=by
  intro X cap hu N
  obtain⟨vs,l1,l2,l3,l4⟩:=N.vals
  exact⟨some X,cap,vs,hu,l1,l2,l3,N.flat.2.2,(λh=>by cases h),(λa O=>by injection O with O;subst O;exact l4)⟩
 rcases h with h|⟨b,o,n,c,e,cs,rfl,hg,N⟩
 ·unfold srcX at h
  split at h
  ·simp only[Rep]at M;exact I h.symm M
  ·obtain⟨rfl,rfl⟩:=h
   simp only[Rep]at M
   rcases M with⟨M,V⟩|⟨X,cap,M,_,_,N⟩
   ·exact I V M
   ·exact J X cap M N
  ·rename_i g e sz' rows
   obtain⟨rfl,rfl⟩:=h
   cases g with
   |none=>simp only[Rep]at M;exact I M.2 M.1
   |some b=>simp only[Rep]at M;obtain⟨cap,M,_,_,_,N⟩:=M;exact J _ cap M N
  ·exact h.elim
 ·obtain⟨h1,h2,h3,h4⟩:=N
  subst h1
  simp only[Rep]at M
  subst M
  obtain⟨vs,hh,Z,T⟩:=hS.obj b _ (mem_append.2 (.inl (Store.get_mem hg)))
  have ac:=T.length
  have N:=RepL.take (ys.length*sz) (RepL.drop o T)
  rw[h4]at N
  refine⟨some ⟨b,o,none⟩,c,_,rfl,?_,N,λv hv=>Z v (mem_of_mem_drop (mem_of_mem_take hv)),h2,(λh=>by cases h),λa O j v Y=>?_⟩
  ·rw[length_take,length_drop,ac];omega
  ·injection O with O
   subst O
   rw[getElem?_take]at Y
   split at Y
   ·rw[add_lit,cell_of_row w b (o+j) vs e (0,0) hh]
    rw[getElem?_drop]at Y
    simpa using Y
   ·cases Y
theorem srcO_ok {sz:Nat} {x:AV} {u:Value} {O e':TypeId} {ys:List (List AV)} (N:P.underlying O=some (.slice e')) (Z:Sat G (σ++ρ) w) (hx:Rep (σ++ρ) w x u) (h:srcO σ sz x ys):
  ∃E,Src P sz O u ys.length E w/\RepL (σ++ρ) w ys.flatten E/\∀r∈ys,r.length=sz:=by
 obtain⟨F,c,E,rfl,I,J,V,M,X,Y⟩:=m8 Z hx h
 cases F with
 |none=>
  have T:=X rfl
  subst T
  have:E=[]:=eq_nil_of_length_eq_zero (by rw[I];simp)
  subst this
  exact⟨[],Src.ofNil w N c,J,M⟩
 |some a=>exact⟨E,Src.ofSlice w N a _ c E I (Y a rfl) V,J,M⟩
theorem gT {t V ty e:TypeId} {i:TypeInfo} (Z:P.underlying t=some (.slice e)) (hi:P.info? e=some i) {b off E I:Nat} {cur:Array Value} {e':TypeId} (Y:w.heap[b]? =some (.cells cur e' (0,0)))
  {x:Value} {n:Nat} {F:List Value} (O:Src P i.size V x n F w) (J:E+n<=I) (M:off+E*i.size+F.length<=cur.size):
  (Builtin.append_ #[t,V] ty #[.slice (some ⟨b,off,none⟩) E I,x]).run P w=
   .ok (.slice (some ⟨b,off,none⟩) (E+n) I) (w.setRow b (cur.toList.take (off+E*i.size)++F++cur.toList.drop (off+E*i.size+F.length)).toArray):=by
 have N:=run_storeCells_at P b (off+E*i.size) e' F 0 cur w Y (by simpa using M) O.one
 simp only[Nat.add_zero]at N
 rcases O.kind with⟨X,T⟩|T<;>simp[Builtin.append_,run_underlying Z,run_underlying T,sizeOf,typeInfo,hi,O.len,J,O.cells,Addr.add_lit,N]
theorem ng {b o n sz:Nat} {e:TypeId} {cs:List AV} {rows:List (List AV)} (T:Sat G (σ++ρ) w) (V:σ.get b=some (.cells e cs)) (O:RowsAt sz cs o n rows):
  ∃vs,w.heap[b]? =some (.cells vs e (0,0))/\vs.size=cs.length/\((vs.toList.drop o).take (n*sz)).length=n*sz/\RepL (σ++ρ) w rows.flatten ((vs.toList.drop o).take (n*sz))/\(∀v∈(vs.toList.drop o).take (n*sz),v.oneCell'=true)/\
   ∀j v,((vs.toList.drop o).take (n*sz))[j]? =some v->w.cell? ((⟨b,o,none⟩:Addr).add j)=some v:=by
 obtain⟨vs,N,I,E⟩:=T.obj b _ (mem_append.2 (.inl (Store.get_mem V)))
 have M:=E.length
 have J:=RepL.take (n*sz) (RepL.drop o E)
 rw[O.eq]at J
 have:=O.fit
 refine⟨vs,N,by simpa using M,?_,J,λv X=>I v (mem_of_mem_drop (mem_of_mem_take X)),λj v F=>?_⟩
 ·rw[length_take,length_drop,M];omega
 ·rw[getElem?_take]at F
  split at F
  ·rw[add_lit,cell_of_row w b (o+j) vs e (0,0) N]
   rw[getElem?_drop]at F
   simpa using F
  ·cases F
theorem ey {t tx e e':TypeId} {sz bytes b o n cap:Nat} {x y:Operand} {rows ys:List (List AV)} {cs z:List AV}
  (hu:P.underlying t=some (.slice e)) (hk:P.underlying tx=some (.slice e')) (hi:(P.info? e).map (λi=>(i.size,i.bytes))=some (sz,bytes)) (hz:cu P e=some z) (e8:z.length=sz) (e6:sz≠0) (cl:bytes≠0)
  (ds:(SOpd.of x).eval G env= .sc (.slice (some ⟨b,o,none⟩) n cap)) (hg:σ.get b=some (.cells e cs)) (M:RowsAt sz cs o n rows) (e5:o+cap*sz<=cs.length)
  (e0:srcO σ sz ((SOpd.of y).eval G env) ys) (T:(n+ys.length)*bytes<=140737488355328)
  (d3:n+ys.length<=cap->K (.sc (.slice (some ⟨b,o,none⟩) (n+ys.length) cap)) (σ.set b (.cells e (splice cs (o+n*sz) ys.flatten))))
  (d4:cap<n+ys.length->∀b' J pad,b'∉σ.keys->n+ys.length<=J->J<=maxLen->(∀r∈rows++ys,r.length=sz)->((rows++ys).flatten++pad).length=J*sz->
   K (.sc (.slice (some ⟨b',0,none⟩) (n+ys.length) J)) ((b',.cells e ((rows++ys).flatten++pad))::σ)):RAW G P (.call (.mk (.builtin .append) #[x,y] #[t,tx])) env σ K ⟨⟩:=by
 intro ρ w a op ho O hE
 have hx:=ar (G:=G) O hE x
 have hy:=ar (G:=G) O hE y
 rw[ds]at hx
 simp only[Rep]at hx
 obtain⟨i,hI,bn⟩:=Option.map_eq_some_iff.1 hi
 simp only[Prod.mk.injEq]at bn
 obtain⟨d1,d2⟩:=bn
 obtain⟨i',zv,aw,e4,e2,e1⟩:=cD (τ:=σ++ρ) (w:=w) hz
 rw[hI]at aw;cases aw
 have e3:zv.cells.size=sz:=by have:=e2.length;simp at this;omega
 have bh:∀{v:Value} {w':World},(Builtin.append_ #[t,tx] op.type #[a.eval x,a.eval y]).run P w= .ok v w'->(execOp a.eval op).run P w= .ok (.value v) w':=by
  intro v w' F
  simp[execOp,ho,resolve,invoke,builtin,F]
 obtain⟨N,E,bk,ag⟩:=srcO_ok hk O hy e0
 have dd:=E.newsLen
 subst d1 d2
 obtain⟨vs,hh,e7,be,bm,bd,ac⟩:=ng O hg M
 by_cases I:n+ys.length<=cap
 ·have V:o+n*i.size+ys.flatten.length<=cs.length:=by
   have:=Nat.mul_le_mul_right i.size I
   rw[ap _ ag];rw[Nat.add_mul]at this;omega
  obtain⟨e9,d0,dl,cm,ch⟩:=O.setRow hg bk E.one (off:=o+n*i.size) V
  have F:=gT (P:=P) (ty:=op.type) (off:=o) hu hI d0 E I (by rw[dl,dd,←ap _ ag];exact V)
  rw[←hx]at F
  exact⟨_,_,_,_,.inl (bh F),d3 I,ch,cm,by simp only[Rep]⟩
 ·have ad:cap<n+ys.length:=by omega
  have ah:n+ys.length<=maxLen:=by
   have:=Nat.le_mul_of_pos_right (n+ys.length) (Nat.pos_of_ne_zero cl)
   unfold maxLen;omega
  have cp:=run_firstCells_some (P:=P) w.drew i.size n ⟨b,o,none⟩ n cap _ be (λj v hj=>by have:=ac j v hj;exact this)
  have F:=run_append_grow_src (P:=P) w t tx op.type e i zv hu hI e4 (some ⟨b,o,none⟩) n cap _ cp (a.eval y) ys.length N E ad (by unfold maxLen at ah;omega) (growslice_fits ad T)
  rw[←hx]at F
  have an:=grownCap_ge w (n+ys.length) cap e
  have al:=grownCap_le_maxLen w (n+ys.length) cap e ah
  generalize grownCap w (n+ys.length) cap e=c2 at F an al
  generalize holds:(vs.toList.drop o).take (n*i.size)=olds at F be bm bd
  let C:Array Value:=(olds++N).toArray++Builtin.zeroCells zv.cells (c2-(n+ys.length))
  have bx:w.heap.size∉σ.keys:=λhm=>Nat.lt_irrefl _ (O.lt_left hm)
  let Z:=(Builtin.zeroCells zv.cells (c2-(n+ys.length))).toList
  have X:∀r∈rows++ys,r.length=i.size:=λr F=>by rcases mem_append.1 F with F|F<;>first|exact M.row r F|exact ag r F
  have cw:=ap _ X
  have bb:(rows++ys).length=n+ys.length:=by rw[length_append,M.len]
  have dc:=d4 ad w.heap.size c2 (List.replicate Z.length .any) bx an al X (by
   have:Z.length=(c2-(n+ys.length))*i.size:=by simp[Z,size_zeroCells,e3]
   rw[length_append,cw,length_replicate,this,bb,←Nat.add_mul]
   congr 1;omega)
  have s2:Sat G (σ++ρ) w.drew:=O.step Ev.drew O.nodup_left (λb hb=>.inl hb) (λb q hq=>(O.obj b q (mem_append.2 (.inl hq))).keep Ev.drew rfl)
  have bo:Ev σ w σ w.drew:=Ev.drew
  have bp:Ev σ w.drew ((w.heap.size,.cells e ((rows++ys).flatten++List.replicate Z.length .any))::σ) (w.drew.alloc (.cells C e)):=Ev.alloc (σ:=σ) (w:=w.drew) _ _
  have ev:=bo.trans bp
  have s3:=s2.alloc (.cells C e) (.cells e ((rows++ys).flatten++List.replicate Z.length .any)) ⟨C,heap_alloc_new w.drew _,by
    intro v Y
    simp only[C,Array.toList_append,mem_append]at Y
    rcases Y with(Y|Y)|Y
    ·exact bd v Y
    ·exact E.one v Y
    ·exact e1 _ (ct Y),by
    have h9:=RepL.append (RepL.ev ev _ _ bm) (RepL.ev ev _ _ bk)
    rw[←flatten_append]at h9
    have bw:=RepL.append h9 (RepL.any _ _ Z)
    rw[show C.toList=olds++N++Z by simp only[C,Z,Array.toList_append]]
    exact bw⟩
  exact⟨_,_,_,_,.inl (bh F),dc,s3,ev,by simp only[Rep]⟩
theorem fM {z:Array Value} (E:0<z.size) (c:Nat):(Builtin.zeroCells z c).toList=(List.replicate c z.toList).flatten:=fB E c
theorem jt {t tn e:TypeId} {sz bytes b o n cap k:Nat} {x y:Operand} {rows:List (List AV)} {cs z:List AV} {kq kn:IntKind}
  (hu:P.underlying t=some (.slice e)) (hk:P.underlying tn=some (.int kn)) (hi:(P.info? e).map (λi=>(i.size,i.bytes))=some (sz,bytes)) (hz:cu P e=some z) (cm:z.length=sz) (d0:sz≠0) (bh:bytes≠0)
  (ch:(SOpd.of x).eval G env= .sc (.slice (some ⟨b,o,none⟩) n cap)) (hg:σ.get b=some (.cells e cs)) (I:RowsAt sz cs o n rows)
  (cl:(SOpd.of y).eval G env= .int kq (k:Nat)) (bp:0<k) (Y:cap<n+k) (F:(n+k)*bytes<=140737488355328)
  (bw:∀b' E pad,b'∉σ.keys->n+k<=E->E<=maxLen->(rows.flatten++((List.replicate k z).flatten++pad)).length=E*sz->
   K (.sc (.slice (some ⟨b',0,none⟩) (n+k) E)) ((b',.cells e (rows.flatten++((List.replicate k z).flatten++pad)))::σ)):RAW G P (.call (.mk (.builtin .append) #[x,y] #[t,tn])) env σ K ⟨⟩:=by
 intro ρ w a op ho M hE
 have hx:=ar (G:=G) M hE x
 have hy:=ar (G:=G) M hE y
 rw[ch]at hx
 rw[cl]at hy
 simp only[Rep]at hx hy
 obtain⟨i,hI,ah⟩:=Option.map_eq_some_iff.1 hi
 simp only[Prod.mk.injEq]at ah
 obtain⟨bn,bo⟩:=ah
 obtain⟨i',zv,X,cw,an,al⟩:=cD (τ:=σ++ρ) (w:=w) hz
 rw[hI]at X;cases X
 have cp:zv.cells.size=sz:=by have:=an.length;simp at this;omega
 subst bn bo
 obtain⟨vs,hh,d1,ad,ag,ac,N⟩:=ng M hg I
 have O:n+k<=maxLen:=by
  have:=Nat.le_mul_of_pos_right (n+k) (Nat.pos_of_ne_zero bh)
  unfold maxLen;omega
 have bk:=run_firstCells_some (P:=P) w.drew i.size n ⟨b,o,none⟩ n cap _ ad (λj v hj=>by have:=N j v hj;exact this)
 have hr:=Lib.run_append_grow_zeros (P:=P) w t tn op.type e i zv kq kn hu hk hI cw (some ⟨b,o,none⟩) n cap _ bk k bp (by omega) Y (by unfold maxLen at O;omega) (by rw[Nat.add_mul]at F;omega) (growslice_fits Y F)
 rw[←hx,←hy]at hr
 have V:=grownCap_ge w (n+k) cap e
 have T:=grownCap_le_maxLen w (n+k) cap e O
 generalize grownCap w (n+k) cap e=c2 at hr V T
 generalize holds:(vs.toList.drop o).take (n*i.size)=olds at hr ad ag ac
 let C:Array Value:=olds.toArray++Builtin.zeroCells zv.cells k++Builtin.zeroCells zv.cells (c2-(n+k))
 have bd:w.heap.size∉σ.keys:=λhm=>Nat.lt_irrefl _ (M.lt_left hm)
 let Z:=(Builtin.zeroCells zv.cells (c2-(n+k))).toList
 have bm:=ap _ I.row
 have bx:=bw w.heap.size c2 (List.replicate Z.length .any) bd V T (by
  have:Z.length=(c2-(n+k))*i.size:=by simp[Z,size_zeroCells,cp]
  rw[length_append,length_append,bm,bW,length_replicate,this,I.len,cm,←Nat.add_mul,←Nat.add_mul]
  congr 1;omega)
 have s2:Sat G (σ++ρ) w.drew:=M.step Ev.drew M.nodup_left (λb hb=>.inl hb) (λb q hq=>(M.obj b q (mem_append.2 (.inl hq))).keep Ev.drew rfl)
 have aw:Ev σ w σ w.drew:=Ev.drew
 have bb:Ev σ w.drew ((w.heap.size,.cells e (rows.flatten++((List.replicate k z).flatten++List.replicate Z.length .any)))::σ) (w.drew.alloc (.cells C e)):=Ev.alloc (σ:=σ) (w:=w.drew) _ _
 have ev:=aw.trans bb
 have be:(Builtin.zeroCells zv.cells k).toList=(List.replicate k zv.cells.toList).flatten:=fM (by omega) k
 have s3:=s2.alloc (.cells C e) (.cells e (rows.flatten++((List.replicate k z).flatten++List.replicate Z.length .any))) ⟨C,heap_alloc_new w.drew _,by
   intro v J
   simp only[C,Array.toList_append,mem_append]at J
   rcases J with(J|J)|J
   ·exact ac v J
   ·exact al _ (ct J)
   ·exact al _ (ct J),by
   have h9:=RepL.append (RepL.ev ev _ _ ag) (RepL.append (RepL.ev ev _ _ (gt an k)) (RepL.any _ _ Z))
   rw[show C.toList=olds++((List.replicate k zv.cells.toList).flatten++Z)by simp only[C,Z,Array.toList_append,be,append_assoc]]
   exact h9⟩
 refine⟨.slice (some ⟨w.heap.size,0,none⟩) (n+k) c2,_,_,_,.inl ?_,bx,s3,ev,by simp only[Rep]⟩
 simp[execOp,ho,resolve,invoke,builtin,hr]
 simp[C,Array.append_assoc]
theorem lA {Y sT elem e:TypeId} {b o E dc sz:Nat} {x y:Operand} {cs:List AV} {ys:List (List AV)} (hu:P.underlying Y=some (.slice elem)) (X:(P.info? elem).map (·.size)=some sz)
  (aw:(SOpd.of x).eval G env= .sc (.slice (some ⟨b,o,none⟩) E dc)) (hg:σ.get b=some (.cells e cs)) (bb:srcO σ sz ((SOpd.of y).eval G env) ys) (M:o+min ys.length E*sz<=cs.length)
  (al:min ys.length E=0->K (.int .i64 0) σ) (hk:min ys.length E≠0->K (.int .i64 (min ys.length E:Nat)) (σ.set b (.cells e (splice cs o (ys.take (min ys.length E)).flatten)))):
  RAW G P (.call (.mk (.builtin .copy) #[x,y] #[Y,sT])) env σ K ⟨⟩:=by
 intro ρ w a op ho O hE
 have hx:=ar (G:=G) O hE x
 have hy:=ar (G:=G) O hE y
 rw[aw]at hx
 simp only[Rep]at hx
 obtain⟨J,c,I,h0,h1,h2,h3,h4,h5,h6⟩:=m8 O hy bb
 by_cases T:min ys.length E=0
 ·have F:=kM (P:=P) w Y sT op.type elem (some ⟨b,o,none⟩) J E dc ys.length c sz hu X T
  rw[←hx,←h0]at F
  refine⟨goInt 0,_,.int .i64 0,_,.inl ?_,al T,O,Ev.refl _ _,by simp[Rep,goInt]⟩
  simp[execOp,ho,resolve,invoke,builtin,F]
 ·cases J with
  |none=>rw[h5 rfl]at T;simp at T
  |some ad=>
   have bd:min ys.length E*sz<=ys.length*sz:=Nat.mul_le_mul_right _ (Nat.min_le_left _ _)
   have hr:RepL (σ++ρ) w (ys.take (min ys.length E)).flatten (I.take (min ys.length E*sz)):=by rw[gy h4];exact RepL.take _ h2
   have V:(I.take (min ys.length E*sz)).length=min ys.length E*sz:=by rw[length_take,h1];omega
   have N:∀v∈I.take (min ys.length E*sz),v.oneCell'=true:=λv hv=>h3 v (mem_of_mem_take hv)
   have ah:(ys.take (min ys.length E)).flatten.length=min ys.length E*sz:=by rw[ap _ (λr hr=>h4 r (mem_of_mem_take hr)),length_take];congr 1;omega
   obtain⟨vs,hh,an,ag,ac⟩:=O.setRow hg hr N (off:=o) (by rw[ah];exact M)
   have F:=lf (P:=P) w Y sT op.type elem b o E dc sz ad ys.length c vs e (I.take (min ys.length E*sz)) hu X hh V (λj v Z=>h6 ad rfl j v (by
    rw[getElem?_take]at Z
    split at Z
    ·exact Z
    ·cases Z)) (by rw[V,an];exact M) N
   rw[←hx,←h0]at F
   refine⟨goInt (min ys.length E:Nat),_,.int .i64 (min ys.length E:Nat),_,.inl ?_,hk T,ac,ag,by simp[Rep,goInt]⟩
   simp[execOp,ho,resolve,invoke,builtin,F]
theorem jS {t elem e:TypeId} {b o n c sz:Nat} {x:Operand} {cs z:List AV} (hu:P.underlying t=some (.slice elem)) (hz:cu P elem=some z) (ag:z.length=sz) (an:sz≠0)
  (ac:(SOpd.of x).eval G env= .sc (.slice (some ⟨b,o,none⟩) n c)) (hg:σ.get b=some (.cells e cs)) (F:o+n*sz<=cs.length)
  (Y:n=0->K .any σ) (hk:n≠0->K .any (σ.set b (.cells e (splice cs o (List.replicate n z).flatten)))):
  RAW G P (.call (.mk (.builtin .clear) #[x] #[t])) env σ K ⟨⟩:=by
 intro ρ w a op ho T hE
 have O:=ar (G:=G) T hE x
 rw[ac]at O
 simp only[Rep]at O
 obtain⟨i,zv,hi,al,N,ad⟩:=cD (τ:=σ++ρ) (w:=w) hz
 have ah:zv.cells.size=sz:=by have:=N.length;simp at this;omega
 by_cases hn:n=0
 ·subst hn
  have E:(Builtin.clear_ #[t] op.type #[a.eval x]).run P w= .ok (.tuple #[]) w:=by
   rw[O];simp[Builtin.clear_,run_underlying hu]
  refine⟨.tuple #[],w,.any,_,.inl ?_,Y rfl,T,Ev.refl _ _,by simp only[Rep]⟩
  simp[execOp,ho,resolve,invoke,builtin,E]
 ·have hZ:(Builtin.zeroCells zv.cells n).toList=(List.replicate n zv.cells.toList).flatten:=fM (by omega) n
  have hr:=gt N n
  have I:∀v∈(List.replicate n zv.cells.toList).flatten,v.oneCell'=true:=λv hv=>by rw[←hZ]at hv;exact ad _ (ct hv)
  obtain⟨vs,hh,Z,X,V⟩:=T.setRow hg hr I (off:=o) (by rw[bW,ag];exact F)
  have M:zv.cells.toList.length=sz:=by simpa using ah
  have J:=run_storeCells_at P b o e (List.replicate n zv.cells.toList).flatten 0 vs w hh (by rw[bW,M,Z];simpa using F) I
  simp only[Nat.add_zero]at J
  have E:(Builtin.clear_ #[t] op.type #[a.eval x]).run P w= .ok (.tuple #[]) (w.setRow b (vs.toList.take o++(List.replicate n zv.cells.toList).flatten++vs.toList.drop (o+(List.replicate n zv.cells.toList).flatten.length)).toArray):=by
   obtain⟨m,rfl⟩:∃m,n=m+1:=⟨n-1,by omega⟩
   rw[O]
   simp[Builtin.clear_,run_underlying hu,zeroValue,typeInfo,hi,al,hZ,J]
  refine⟨.tuple #[],_,.any,_,.inl ?_,hk hn,V,X,by simp only[Rep]⟩
  simp[execOp,ho,resolve,invoke,builtin,E]
theorem nc {x:Operand} {I e:TypeId} {E:Option Addr} {n c:Nat} (V:(SOpd.of x).eval G env= .sc (.slice E n c)) (T:P.underlying I=some (.slice e))
  (N:K (.int .i64 c) σ):RAW G P (.call (.mk (.builtin .cap) #[x] #[I])) env σ K ⟨⟩:=by
 refine ca _ (λρ w a op O M J=>?_) N
 have F:=ar M J x
 rw[V]at F
 simp only[Rep]at F
 refine⟨.int .i64 c,?_,by simp only[Rep]⟩
 simp[execOp,O,resolve,invoke,builtin,F,Builtin.cap_,run_underlying T]
 try rfl
def bndO (G:Glob) (env:Env) (y:Option Operand) (d v:Nat):Prop:=match y with
 |none=>v=d
 |some y=>∃k,(SOpd.of y).eval G env= .int k (v:Nat)
theorem oi {t e:TypeId} {x:Operand} {lo hi J:Option Operand} {l h m b o n cap sz:Nat} (hu:P.underlying t=some (.slice e)) (Z:(P.info? e).map (·.size)=some sz)
  (hx:(SOpd.of x).eval G env= .sc (.slice (some ⟨b,o,none⟩) n cap)) (F:bndO G env lo 0 l) (E:bndO G env hi n h) (I:bndO G env J cap m) (M:J.isSome=true->hi.isSome=true) (h1:l<=h) (h2:h<=m) (h3:m<=cap)
  (Y:K (.sc (.slice (some ⟨b,if m=l then o else o+l*sz,none⟩) (h-l) (m-l))) σ):RAW G P (.slice t x lo hi J) env σ K ⟨⟩:=by
 refine ca _ (λρ w a op ho O N=>?_) Y
 have T:=ar (G:=G) O N x
 rw[hx]at T
 simp only[Rep]at T
 obtain⟨i,V,X⟩:=Option.map_eq_some_iff.1 Z
 refine⟨_,?_,by simp only[Rep];rfl⟩
 have ev:∀{y:Operand} {k:IntKind} {v:Nat},(SOpd.of y).eval G env= .int k (v:Nat)->a.eval y= .int k (v:Nat):=by
  intro y k v hy
  have:=ar (G:=G) O N y
  rw[hy]at this
  simpa only[Rep]using this
 have c1:l<=m:=by omega
 have c2:h<=cap:=by omega
 cases lo<;>cases hi<;>cases J<;>simp only[bndO,Option.isSome,Bool.false_eq_true,forall_const,implies_true,reduceCtorEq]at F E I M
 all_goals(
  try obtain⟨k1,F⟩:=F
  try obtain⟨k2,E⟩:=E
  try obtain⟨k3,I⟩:=I
  try subst F
  try subst E
  try subst I
  try have e1:=ev F
  try have e2:=ev E
  try have e3:=ev I
  simp_all[execOp,Instr.sliceAt,Instr.slice,run_underlying hu,Instr.sliceBounds,Instr.sliceBound,asIntOf,sizeOf,typeInfo,add_lit]
  try(split<;>rfl))
end
section
variable {G:Glob} {P:Program}
theorem fnAt_ex {k:Nat} {g:List Nat} {I:List (Nat×Option (Bool×Nat))} {s:SCode} (E:fnAt P k g=some (I,s)):
  ∃fn,P.funcs[k]? =some fn/\(fn.name== "runtime.NumGoroutine")=false/\fn.body.isNone=false:=by
 unfold fnAt at E
 cases F:P.funcs[k]? with
 |none=>rw[F]at E;cases E
 |some fn=>
  rw[F]at E
  have E:jL P g fn=some (I,s):=E
  unfold jL at E
  split at E
  ·cases E
  ·rename_i M
   split at E
   ·rename_i c N J O
    exact⟨fn,rfl,by simpa using M,by rw[J];rfl⟩
   ·cases E
theorem aj.wn {k:Nat} {g:List Nat} {I:List (Nat×Option (Bool×Nat))} {s:SCode} {args:List AV} {σ:Store} {R:AV->Store->Prop} (E:fnAt P k g=some (I,s))
  (h:σ.keys.Nodup->W G P s (retQ I R) (cO 0 args) σ ⟨⟩):aj G P k args σ R:=by
 by_cases F:σ.keys.Nodup
 ·exact aj.w E (h F)
 ·exact⟨fnAt_ex E,λρ w vs J _=>absurd J.nodup_left F⟩
theorem Ev.cells1 {b:Nat} {e:TypeId} {cs cs':List AV} (w:World):Ev [(b,.cells e cs)] w [(b,.cells e cs')] w:=
 ⟨rfl,rfl,rfl,Nat.le_refl _,λ_ _ J=>⟨rfl,J⟩,λ_ _ h=>h,λa v M I=>⟨M,λ⟨x,E,_⟩=>I (by
  simp only[mem_singleton]at E
  obtain⟨F,N⟩:=Prod.mk.inj E
  exact⟨.cells e cs,by simp[F],trivial⟩)⟩⟩
theorem Weak.frz {env:Env} {b:Nat} {e:TypeId} {cs cs':List AV} {κ rest σ:Store} (h:FrzL κ cs cs') (hs:SubN ((b,.cells e cs)::(rest++κ)) σ):Weak G env σ env ((b,.cells e cs')::rest):=by
 intro ρ w tmps Z Y
 have O:=Z.subN hs
 have hE:∀j,Rep ((b,.cells e cs)::(rest++κ)++ρ) w (env.get j) (tmps.getD j undef):=λj=>Rep.ev (Ev.of_sub hs.1 w) _ _ (Y j)
 have ah:=O.nodup
 have M:=O.nodup_left
 have J:∀{q o:Nat},Mut ((b,.cells e cs')::rest) q o->Mut ((b,.cells e cs)::(rest++κ)) q o:=by
  rintro q o ⟨x,I,hm⟩
  rcases mem_cons.1 I with I|I
  ·obtain⟨X,h2⟩:=Prod.mk.inj I
   exact⟨.cells e cs,by simp[X],trivial⟩
  ·exact⟨x,mem_cons_of_mem _ (mem_append.2 (.inl I)),hm⟩
 have ev:Ev ((b,.cells e cs)::(rest++κ)) w ((b,.cells e cs')::rest) w:=
  ⟨rfl,rfl,rfl,Nat.le_refl _,λq _ hn=>⟨rfl,λE=>hn (by
   simp only[Store.keys,map_cons,mem_cons,map_append,mem_append]at E ⊢
   rcases E with E|E
   ·exact .inl E
   ·exact .inr (.inl E))⟩,λ_ _ h=>h,λ_ _ hv hm=>⟨hv,λm=>hm (J m)⟩⟩
 have N:(Store.keys ((b,.cells e cs')::rest)).Nodup:=by
  have:Store.keys ((b,.cells e cs)::(rest++κ))=Store.keys ((b,.cells e cs')::rest)++κ.keys:=by simp[Store.keys]
  rw[this]at M
  exact(nodup_append.1 M).1
 refine⟨O.step ev N (λq E=>.inl (by
  simp only[Store.keys,map_cons,mem_cons,map_append,mem_append]at E ⊢
  rcases E with E|E
  ·exact .inl E
  ·exact .inr (.inl E))) (λq x I=>?_),(Ev.of_sub hs.1 w).trans ev,λj=>Rep.ev ev _ _ (hE j)⟩
 rcases mem_cons.1 I with I|I
 ·obtain⟨X,h2⟩:=Prod.mk.inj I
  subst X h2
  obtain⟨vs,hh,T,V⟩:=O.obj q (.cells e cs) (by simp)
  refine⟨vs,hh,T,?_⟩
  have F:List.Perm (κ++((q,.cells e cs)::rest++ρ)) ((q,.cells e cs)::(rest++κ)++ρ):=by
   simp only[cons_append,append_assoc]
   refine(perm_middle).trans (List.Perm.cons _ ?_)
   rw[←append_assoc,←append_assoc]
   exact List.Perm.append_right _ perm_append_comm
  have ac:Sat G (κ++((q,.cells e cs)::rest++ρ)) w:=by
   have:=Sat.subN (ρ:=[]) (by simpa using O) (SubN.perm F)
   simpa using this
  have ad:RepL (κ++((q,.cells e cs)::rest++ρ)) w cs vs.toList:=RepL.sub (λp hp=>F.mem_iff.1 hp) V
  have ag:=FrzL.rep ac h ad
  have:=RepL.ev (ρ:=rest++ρ) (Ev.cells1 (b:=q) (e:=e) (cs:=cs) (cs':=cs') w) _ _ (by simpa using ag)
  simpa using this
 ·exact(O.obj q x (by simp[I])).keep ev rfl
end
theorem aO.ws {e:TypeId} {sz:Nat} {rows:List (List AV)} {v:AV} {κ:Store} (h:aO e sz rows v κ):∃g,WS κ e sz v rows g/\(∀b,g=some b->κ.erase (some b)=[])/\(g=none->κ=[]):=by
 obtain⟨E,cap,rfl,h⟩:=h
 rcases h with⟨rfl,rfl,rfl⟩|⟨b,pad,rfl,rfl,I,J,M,N⟩
 ·refine⟨none,.inl ⟨rfl,rfl,.inr ⟨_,rfl,?_⟩⟩,(λb h=>by cases h),λ_=>rfl⟩
  cases E with
  |none=>exact .inl rfl
  |some a=>exact .inr ⟨a,rfl⟩
 ·refine⟨some b,.inr ⟨b,cap,pad,rfl,rfl,by simp[Store.get],M,N,I,J⟩,(λq F=>by injection F with F;subst F;simp[Store.erase]),(λh=>by cases h)⟩
theorem aO.mk {e:TypeId} {sz b cap n:Nat} {rows:List (List AV)} {pad:List AV} (M:n=rows.length) (E:rows.length<=cap) (F:cap<=maxLen) (I:∀r∈rows,r.length=sz) (J:(rows.flatten++pad).length=cap*sz):aO e sz rows (.sc (.slice (some ⟨b,0,none⟩) n cap)) [(b,.cells e (rows.flatten++pad))]:=by
 subst M
 exact⟨_,cap,rfl,.inr ⟨b,pad,rfl,rfl,E,F,I,J⟩⟩
theorem aO.nil {e:TypeId} {sz:Nat}:aO e sz [] (.sc (.slice none 0 0)) []:=⟨none,0,rfl,.inl ⟨rfl,rfl,rfl⟩⟩
section
variable {G:Glob} {P:Program}
theorem aj.freezeK {k:FuncId} {args ys:List AV} {σ:Store} {R1:Store->Prop} (h:aj G P k args σ (λr σ'=>∃xs κ E,r= .agg xs/\FrzL κ xs ys/\σ'=κ++E/\R1 E)):aj G P k args σ (λr σ'=>r= .agg ys/\R1 σ'):=
 ⟨h.1,λρ w vs hS Y=>(h.2 ρ w vs hS Y).mono λe w' ⟨v,r,σ',he,⟨xs,κ,E,hr,Z,O,M⟩,I,N,F⟩=>by
  subst hr O
  rw[append_assoc]at I F
  have J:Sub E (κ++E):=λq hq=>mem_append.2 (.inr hq)
  refine⟨v,.agg ys,E,he,⟨rfl,M⟩,?_,N.trans (Ev.of_sub J _),?_⟩
  ·have:Sat G ((κ++E)++ρ) w':=by rwa [append_assoc]
   exact this.subN SubN.appR
  ·simp only[Rep]at F ⊢
   obtain⟨T,M,V,X⟩:=F
   exact⟨T,M,V,FrzL.rep I Z X⟩⟩
end
end Go.Av
