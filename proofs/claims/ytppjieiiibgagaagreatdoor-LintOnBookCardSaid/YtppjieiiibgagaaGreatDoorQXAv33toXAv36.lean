/-
  ABSTRACT VALUES, 33: blocks told apart from the start; cells of one's own, let go where another cell holds them.
-/
import Derived.Test.YtppjieiiibgagaaGreatDoorQXQ1toXAv32
import Derived.Lib.Overlaps
set_option linter.all false
namespace Go.Av
open Go Go.RowKit List
section
variable {G:Glob} {P:Program}
def fnAt_ex {k:Nat} {g:List Nat} {F:List (Nat×Option (Bool×Nat))} {s:SCode} (D:fnAt P k g=some (F,s)):
  ∃fn,P.funcs[k]? =some fn/\(fn.name== "runtime.NumGoroutine")=false/\fn.body.isNone=false:=by
 unfold fnAt at D
 cases E:P.funcs[k]? with
 |none=>rw[E]at D;cases D
 |some fn=>
  rw[E]at D;have D:mQ P g fn=some (F,s):=D;unfold mQ at D;split at D
  ·cases D
  ·rename_i J;split at D
   ·rename_i c M I N;exact⟨fn,rfl,by simpa using J,by rw[I];rfl⟩
   ·cases D
def aj.wn {k:Nat} {g:List Nat} {F:List (Nat×Option (Bool×Nat))} {s:SCode} {args:List AV} {σ:Store} {R:AV->Store->Prop} (D:fnAt P k g=some (F,s))
  (h:σ.keys.Nodup->W G P s (retQ F R) (dA 0 args) σ ⟨⟩):aj G P k args σ R:=by
 by_cases E:σ.keys.Nodup
 ·exact aj.w D (h E)
 ·exact⟨fnAt_ex D,λρ w vs I _=>absurd I.nodup_left E⟩
def uO {b:Nat} {e:TypeId} {cs cs':List AV} (w:World):Ev [(b,.cells e cs)] w [(b,.cells e cs')] w:=
 ⟨rfl,rfl,rfl,Nat.le_refl _,λ_ _ I=>⟨rfl,I⟩,λ_ _ h=>h,λa v J F=>⟨J,λ⟨x,D,_⟩=>F (by
  simp only[mem_singleton]at D
  obtain⟨E,M⟩:=Prod.mk.inj D
  exact⟨.cells e cs,by simp[E],trivial⟩)⟩⟩
def uS {env:Env} {b:Nat} {e:TypeId} {cs cs':List AV} {κ rest σ:Store} (h:FrzL κ cs cs') (hs:SubN ((b,.cells e cs)::(rest++κ)) σ):Weak G env σ env ((b,.cells e cs')::rest):=by
 intro ρ w tmps Y X;have N:=Y.subN hs;have hE:∀j,Rep ((b,.cells e cs)::(rest++κ)++ρ) w (env.get j) (tmps.getD j undef):=λj=>Rep.ev (rN hs.1 w) _ _ (X j);have ad:=N.nodup;have J:=N.nodup_left
 have I:∀{q o:Nat},Mut ((b,.cells e cs')::rest) q o->Mut ((b,.cells e cs)::(rest++κ)) q o:=by
  rintro q o ⟨x,F,hm⟩
  rcases mem_cons.1 F with F|F
  ·obtain⟨V,h2⟩:=Prod.mk.inj F;exact⟨.cells e cs,by simp[V],trivial⟩
  ·exact⟨x,mem_cons_of_mem _ (mem_append.2 (.inl F)),hm⟩
 have ev:Ev ((b,.cells e cs)::(rest++κ)) w ((b,.cells e cs')::rest) w:=
  ⟨rfl,rfl,rfl,Nat.le_refl _,λq _ hn=>⟨rfl,λD=>hn (by
   simp only[Store.keys,map_cons,mem_cons,map_append,mem_append]at D ⊢
   rcases D with D|D
   ·exact .inl D
   ·exact .inr (.inl D))⟩,λ_ _ h=>h,λ_ _ hv hm=>⟨hv,λm=>hm (I m)⟩⟩
 have M:(Store.keys ((b,.cells e cs')::rest)).Nodup:=by
  have:Store.keys ((b,.cells e cs)::(rest++κ))=Store.keys ((b,.cells e cs')::rest)++κ.keys:=by simp[Store.keys]
  rw[this]at J;exact(nodup_append.1 J).1
 refine⟨N.step ev M (λq D=>.inl (by
  simp only[Store.keys,map_cons,mem_cons,map_append,mem_append]at D ⊢
  rcases D with D|D
  ·exact .inl D
  ·exact .inr (.inl D))) (λq x F=>?_),(rN hs.1 w).trans ev,λj=>Rep.ev ev _ _ (hE j)⟩
 rcases mem_cons.1 F with F|F
 ·obtain⟨V,h2⟩:=Prod.mk.inj F;subst V h2;obtain⟨vs,hh,O,T⟩:=N.obj q (.cells e cs) (by simp);refine⟨vs,hh,O,?_⟩
  have E:List.Perm (κ++((q,.cells e cs)::rest++ρ)) ((q,.cells e cs)::(rest++κ)++ρ):=by
   simp only[cons_append,append_assoc];refine(perm_middle).trans (List.Perm.cons _ ?_);rw[←append_assoc,←append_assoc];exact List.Perm.append_right _ perm_append_comm
  have Z:Sat G (κ++((q,.cells e cs)::rest++ρ)) w:=by
   have:=Sat.subN (ρ:=[]) (by simpa using N) (o6 E);simpa using this
  have aa:RepL (κ++((q,.cells e cs)::rest++ρ)) w cs vs.toList:=RepL.sub (λp hp=>E.mem_iff.1 hp) T;have ac:=FrzL.rep Z h aa;have:=RepL.ev (ρ:=rest++ρ) (uO (b:=q) (e:=e) (cs:=cs) (cs':=cs') w) _ _ (by simpa using ac);simpa using this
 ·exact(N.obj q x (by simp[F])).keep ev rfl
end
def bW.mk {e:TypeId} {sz b cap n:Nat} {rows:List (List AV)} {pad:List AV} (J:n=rows.length) (D:rows.length<=cap) (E:cap<=maxLen) (F:∀r∈rows,r.length=sz) (I:(rows.flatten++pad).length=cap*sz):bW e sz rows (.sc (.slice (some ⟨b,0,none⟩) n cap)) [(b,.cells e (rows.flatten++pad))]:=by
 subst J;exact⟨_,cap,rfl,.inr ⟨b,pad,rfl,rfl,D,E,F,I⟩⟩
section
variable {G:Glob} {P:Program}
def ub {k:FuncId} {args ys:List AV} {σ:Store} {R1:Store->Prop} (h:aj G P k args σ (λr σ'=>∃xs κ D,r= .agg xs/\FrzL κ xs ys/\σ'=κ++D/\R1 D)):aj G P k args σ (λr σ'=>r= .agg ys/\R1 σ'):=
 ⟨h.1,λρ w vs Z X=>(h.2 ρ w vs Z X).mono λe w' ⟨v,r,σ',he,⟨xs,κ,D,hr,Y,N,J⟩,F,M,E⟩=>by
  subst hr N
  rw[append_assoc]at F E
  have I:Sub D (κ++D):=λq hq=>mem_append.2 (.inr hq)
  refine⟨v,.agg ys,D,he,⟨rfl,J⟩,?_,M.trans (rN I _),?_⟩
  ·have:Sat G ((κ++D)++ρ) w':=by rwa [append_assoc]
   exact this.subN tD
  ·simp only[Rep]at E ⊢
   obtain⟨O,J,T,V⟩:=E
   exact⟨O,J,T,FrzL.rep F Y V⟩⟩
end
def fh {A B B' C:List AV} {o:Nat} (E:o=A.length) (D:B'.length=B.length):aJ (A++(B++C)) o B'=A++(B'++C):=by
 subst E;rw[bg _ _ _ (by simp;omega),take_append_of_le_length (Nat.le_refl _),take_length,←drop_drop,drop_left,append_assoc,D,drop_left]
def mu (l:List AV) (o:Nat) (h:o<=l.length):aJ l o []=l:=by
 rw[bg _ _ _ (by simpa using h)];simp
def RowsAt.zero {sz:Nat} {cs:List AV} {o:Nat} (h:o<=cs.length):RowsAt sz cs o 0 []:=⟨rfl,by simp,by omega,by simp⟩
def uD {sz:Nat} {A C:List AV} {rows:List (List AV)} {o n:Nat} (I:o=A.length) (F:rows.length=n) (D:∀r∈rows,r.length=sz):RowsAt sz (A++(rows.flatten++C)) o n rows:=by
 subst I F;have E:=az rows D;refine⟨rfl,D,by rw[length_append,length_append,E];omega,?_⟩;rw[drop_left,take_append_of_le_length (by omega),take_of_length_le (by omega)]
def bW.mk0 {e:TypeId} {sz b n:Nat} {rows:List (List AV)} (E:n=rows.length) (F:rows.length<=maxLen) (D:∀r∈rows,r.length=sz):bW e sz rows (.sc (.slice (some ⟨b,0,none⟩) n n)) [(b,.cells e rows.flatten)]:=by
 have:=bW.mk (e:=e) (b:=b) (pad:=[]) E (Nat.le_refl _) F D (by rw[append_nil,az rows D]);rw[append_nil,←E]at this;exact this
def RowsAt.tail {sz:Nat} {rows:List (List AV)} {pad:List AV} (h:∀r∈rows,r.length=sz) {l:Nat} (D:l<=rows.length):RowsAt sz (rows.flatten++pad) (l*sz) (rows.length-l) (rows.drop l):=by
 have:=RowsAt.cut (pad:=pad) h (l:=l) (k:=rows.length-l) (by omega);rwa [take_of_length_le (by rw[length_drop];omega)]at this
def RowsAt.head {sz:Nat} {rows:List (List AV)} {pad:List AV} (h:∀r∈rows,r.length=sz) {l:Nat} (D:l<=rows.length):RowsAt sz (rows.flatten++pad) 0 l (rows.take l):=by
 have:=RowsAt.cut (pad:=pad) h (l:=0) (k:=l) (by omega);simpa using this
def tl {sz o:Nat} {rows:List (List AV)} {pad:List AV} (h:∀r∈rows,r.length=sz) {l:Nat} (D:l<=rows.length) (E:o=l*sz\/l=rows.length/\o=0):RowsAt sz (rows.flatten++pad) o (rows.length-l) (rows.drop l):=by
 rcases E with rfl|⟨rfl,rfl⟩
 ·exact RowsAt.tail h D
 ·rw[Nat.sub_self,drop_length];exact RowsAt.zero (Nat.zero_le _)
def nQ {sz:Nat} {rows:List (List AV)} {pad:List AV} (h:∀r∈rows,r.length=sz) {l:Nat} (E:l<=rows.length):(rows.flatten++pad).take (l*sz)=(rows.take l).flatten:=by
 have D:=az rows h;rw[take_append_of_le_length (by rw[D];exact Nat.mul_le_mul_right _ E),iw h]
def sK:∀{σ:Store} {b:Nat} {x:AObj},σ.get b=some x->σ.set b x=σ
 |[],b,x,h=>by simp[Store.get]at h
 |(k,y)::σ,b,x,h=>by
  simp only[Store.get]at h;simp only[Store.set];split at h
  ·rename_i D
   injection h with h
   subst h;rw[if_pos D]
  ·rename_i D;rw[if_neg D,sK h]
def oO {sz:Nat} {L:List (List AV)} {pad:List AV} {i:Nat} {r:List AV} (h:∀r∈L,r.length=sz) (D:L[i]? =some r):((L.flatten++pad).drop (i*sz)).take sz=r:=by
 obtain⟨hi,D⟩:=List.getElem?_eq_some_iff.1 D;rw[iO h hi,D]
def oi {sz:Nat} {L:List (List AV)} {pad:List AV} {i:Nat} {c:List AV} (h:∀r∈L,r.length=sz) (hi:i<L.length) (F:c.length=sz):aJ (L.flatten++pad) (i*sz) c=(L.set i c).flatten++pad:=by
 have D:=dM (off:=0) (c:=c) (sz:=sz) (by omega) (pad:=pad) h hi
 have E:aJ L[i] 0 c=c:=by
  have:=h L[i] (getElem_mem hi);rw[bg _ _ _ (by omega)];simp;omega
 rw[Nat.add_zero,E]at D;exact D
section
variable {G:Glob} {P:Program} {σ:Store} {env:Env} {K:AV->Store->Prop}
def bc {t e:TypeId} {x:Operand} {lo hi N:Option Operand} {l h m b o n cap sz:Nat} (V T O:Nat) (hu:P.underlying t=some (.slice e)) (hn:(P.info? e).map (·.size)=some sz)
  (hx:(SOpd.of x).eval G env= .sc (.slice (some ⟨b,o,none⟩) n cap)) (F:bndO G env lo 0 l) (E:bndO G env hi n h) (J:bndO G env N cap m) (I:N.isSome=true->hi.isSome=true) (X:l<=h) (Y:h<=m) (Z:m<=cap)
  (ho:(if m=l then o else o+l*sz)=V) (M:h-l=T) (D:m-l=O) (hk:K (.sc (.slice (some ⟨b,V,none⟩) T O)) σ):RAW G P (.slice t x lo hi N) env σ K ⟨⟩:=by
 subst ho M D
 exact qT hu hn hx F E J I X Y Z hk
def iN {N sT elem e:TypeId} {b o O T sz:Nat} {x y:Operand} {cs:List AV} {ys:List (List AV)} (m:Nat) (cs':List AV) (Z:P.underlying N=some (.slice elem)) (I:(P.info? elem).map (·.size)=some sz)
  (J:(SOpd.of x).eval G env= .sc (.slice (some ⟨b,o,none⟩) O T)) (V:σ.get b=some (.cells e cs)) (M:srcO σ sz ((SOpd.of y).eval G env) ys) (Y:min ys.length O=m) (E:m≠0) (D:o+m*sz<=cs.length)
  (F:aJ cs o (ys.take m).flatten=cs') (X:K (.i (m:Nat)) (σ.set b (.cells e cs'))):
  RAW G P (.call (.mk (.builtin .copy) #[x,y] #[N,sT])) env σ K ⟨⟩:=by
 subst Y F
 exact nO Z I J V M D (λh=>absurd h E) (λ_=>X)
def nH {N Z elem e:TypeId} {b o O V sz:Nat} {x y:Operand} {cs:List AV} {ys:List (List AV)} (m:Nat) (cs':List AV) (Y:P.underlying N=some (.slice elem)) (I:(P.info? elem).map (·.size)=some sz)
  (J:(SOpd.of x).eval G env= .sc (.slice (some ⟨b,o,none⟩) O V)) (T:σ.get b=some (.cells e cs)) (M:srcO σ sz ((SOpd.of y).eval G env) ys) (X:min ys.length O=m) (D:o+m*sz<=cs.length)
  (F:aJ cs o (ys.take m).flatten=cs') (E:K (.i (m:Nat)) (σ.set b (.cells e cs'))):
  RAW G P (.call (.mk (.builtin .copy) #[x,y] #[N,Z])) env σ K ⟨⟩:=by
 subst X F
 refine nO Y I J T M D (λh=>?_) (λ_=>E)
 rw[h]at E D
 rw[take_zero,flatten_nil,mu _ _ (by omega),sK T]at E
 exact E
def qU {t e:TypeId} {x:Operand} {lo hi J:Option Operand} {I:Option Addr} {sz:Nat} (hu:P.underlying t=some (.slice e)) (Z:(P.info? e).map (·.size)=some sz)
  (hx:(SOpd.of x).eval G env= .sc (.slice I 0 0)) (E:bndO G env lo 0 0) (D:bndO G env hi 0 0) (F:bndO G env J 0 0) (M:J.isSome=true->hi.isSome=true)
  (Y:K (.sc (.slice I 0 0)) σ):RAW G P (.slice t x lo hi J) env σ K ⟨⟩:=by
 refine dS _ (λρ w a op ho O N=>?_) Y
 have T:=au (G:=G) O N x
 rw[hx]at T
 simp only[Rep]at T
 obtain⟨i,V,X⟩:=Option.map_eq_some_iff.1 Z
 refine⟨_,?_,by simp only[Rep];rfl⟩
 have ev:∀{y:Operand} {k:IntKind} {v:Nat},(SOpd.of y).eval G env= .int k (v:Nat)->a.eval y= .int k (v:Nat):=by
  intro y k v hy;have:=au (G:=G) O N y;rw[hy]at this;simpa only[Rep]using this
 cases lo<;>cases hi<;>cases J<;>simp only[bndO,Option.isSome,Bool.false_eq_true,forall_const,implies_true,reduceCtorEq]at E D F M
 all_goals(
  try obtain⟨k1,E⟩:=E
  try obtain⟨k2,D⟩:=D
  try obtain⟨k3,F⟩:=F
  try have e1:=ev E
  try have e2:=ev D
  try have e3:=ev F
  simp_all[execOp,Instr.sliceAt,Instr.slice,run_underlying hu,Instr.sliceBounds,Instr.sliceBound,asIntOf,sizeOf,typeInfo])
def RowsAt.grow {sz:Nat} {cs:List AV} {n:Nat} {rows ys:List (List AV)} (h:RowsAt sz cs 0 n rows) (J:∀r∈ys,r.length=sz) (M:(n+ys.length)*sz<=cs.length):RowsAt sz (aJ cs (0+n*sz) ys.flatten) 0 (n+ys.length) (rows++ys):=by
 have F:=az ys J;have E:=az rows h.row;have I:=h.eq;rw[drop_zero]at I;rw[Nat.add_mul]at M;refine⟨by rw[length_append,h.len],λr D=>by rcases mem_append.1 D with D|D<;>first|exact h.row r D|exact J r D,?_,?_⟩
 ·rw[mg (by omega),Nat.add_mul];omega
 ·rw[bg _ _ _ (by omega),Nat.zero_add,I,drop_zero,flatten_append,take_append_of_le_length (by rw[length_append,E,F,h.len,Nat.add_mul];omega),take_of_length_le (by rw[length_append,E,F,h.len,Nat.add_mul];omega)]
def RowsAt.all {sz:Nat} {rows:List (List AV)} {pad:List AV} (h:∀r∈rows,r.length=sz) {n:Nat} (D:n=rows.length):RowsAt sz (rows.flatten++pad) 0 n rows:=by
 subst D;simpa using RowsAt.head (pad:=pad) h (Nat.le_refl _)
def RowsAt.split {sz:Nat} {cs:List AV} {n:Nat} {rows:List (List AV)} (h:RowsAt sz cs 0 n rows):cs=rows.flatten++cs.drop (n*sz):=by
 have:=h.eq;rw[drop_zero]at this;rw[←this,take_append_drop]
def RowsAt.pre {sz:Nat} {cs:List AV} {n:Nat} {rows:List (List AV)} (h:RowsAt sz cs 0 n rows) {l:Nat} (E:l<=n):RowsAt sz cs 0 l (rows.take l):=by
 have D:=RowsAt.head (pad:=cs.drop (n*sz)) h.row (l:=l) (by rw[h.len];exact E);rwa [←h.split]at D
def RowsAt.suf {sz:Nat} {cs:List AV} {n o:Nat} {rows:List (List AV)} (h:RowsAt sz cs 0 n rows) {l:Nat} (E:l<=n) (F:o=l*sz\/l=n/\o=0):RowsAt sz cs o (n-l) (rows.drop l):=by
 have D:=tl (pad:=cs.drop (n*sz)) (o:=o) h.row (l:=l) (by rw[h.len];exact E) (by rw[h.len];exact F);rwa [←h.split,h.len]at D
def pp {t X e e':TypeId} {sz bytes b n cap:Nat} {x y:Operand} {rows:List (List AV)} {cs z:List AV}
  (Z:P.underlying t=some (.slice e)) (Y:P.underlying X=some (.slice e')) (hi:(P.info? e).map (λi=>(i.size,i.bytes))=some (sz,bytes)) (hz:da P e=some z) (O:z.length=sz) (F:sz≠0) (I:bytes≠0)
  (M:(SOpd.of x).eval G env= .sc (.slice (some ⟨b,0,none⟩) n cap)) (V:σ.get b=some (.cells e cs)) (E:RowsAt sz cs 0 n rows) (T:cap*sz<=cs.length) (hn:n<=cap)
  (N:srcO σ sz ((SOpd.of y).eval G env) []) (D:n*bytes<=140737488355328)
  (J:K (.sc (.slice (some ⟨b,0,none⟩) n cap)) σ):RAW G P (.call (.mk (.builtin .append) #[x,y] #[t,X])) env σ K ⟨⟩:=by
 have hf:=E.fit
 refine fL Z Y hi hz O F I M V E (by omega) N (by simpa using D) (λ_=>?_) (λh=>by simp at h;omega)
 rw[flatten_nil,mu _ _ (by omega),sK V]
 exact J
def kJ {t tx e e':TypeId} {sz bytes b n cap:Nat} {x y:Operand} {rows ys:List (List AV)} {cs z:List AV}
  (hu:P.underlying t=some (.slice e)) (hk:P.underlying tx=some (.slice e')) (hi:(P.info? e).map (λi=>(i.size,i.bytes))=some (sz,bytes)) (hz:da P e=some z) (aa:z.length=sz) (N:sz≠0) (T:bytes≠0)
  (Y:(SOpd.of x).eval G env= .sc (.slice (some ⟨b,0,none⟩) n cap)) (hg:σ.get b=some (.cells e cs)) (E:RowsAt sz cs 0 n rows) (I:cap*sz<=cs.length) (V:cap<=maxLen)
  (Z:srcO σ sz ((SOpd.of y).eval G env) ys) (O:∀r∈ys,r.length=sz) (F:(n+ys.length)*bytes<=140737488355328)
  (M:∀J D cs' σ',RowsAt sz cs' 0 (n+ys.length) (rows++ys)->D*sz<=cs'.length->n+ys.length<=D->D<=maxLen->(J=b/\σ'=σ.set b (.cells e cs')\/J∉σ.keys/\σ'=(J,.cells e cs')::σ)->
   K (.sc (.slice (some ⟨J,0,none⟩) (n+ys.length) D)) σ'):RAW G P (.call (.mk (.builtin .append) #[x,y] #[t,tx])) env σ K ⟨⟩:=by
 have hf:=E.fit
 have ac:=az ys O
 refine fL hu hk hi hz aa N T Y hg E (by omega) Z F (λhr=>?_) (λ_ J D pad hb h1 h2 h3 h4=>?_)
 ·have hm:(n+ys.length)*sz<=cs.length:=Nat.le_trans (Nat.mul_le_mul_right _ hr) I
  have X:=hm;rw[Nat.add_mul]at X;exact M b cap _ _ (E.grow O hm) (by rw[mg (by omega)];exact I) hr V (.inl ⟨rfl,rfl⟩)
 ·exact M J D _ _ (RowsAt.all h3 (by rw[length_append,E.len])) (by rw[h4];exact Nat.le_refl _) h1 h2 (.inr ⟨hb,rfl⟩)
def uE {k:FuncId} {args:List AV} {T:AV} (h:aj G P k args [] (λr σ=>(r=T/\σ=[])\/∃b e n cap cs sz rows x,r= .tup [.sc (.slice (some ⟨b,0,none⟩) n cap),x]/\σ=[(b,.cells e cs)]/\RowsAt sz cs 0 n rows/\n<=cap/\cap<=maxLen/\T= .tup [.lst sz rows,x]/\x.flat=true)):Pure G P k args T:=
 ⟨h.1,λρ w vs hS hA=>(h.2 ρ w vs hS hA).mono λen w' ⟨v,r,σ',V,hr,E,F,D⟩=>by
  rcases hr with⟨rfl,rfl⟩|⟨b,e,n,cap,cs,sz,rows,x,rfl,rfl,I,h1,h2,rfl,hx⟩
  ·exact⟨v,r,[],V,⟨rfl,rfl⟩,E,F,D⟩
  ·have X:=SubN.nil [(b,AObj.cells e cs)]
   refine⟨v,_,[],V,⟨rfl,rfl⟩,E.subN X,F.trans (rN X.1 _),?_⟩
   simp only[Rep,RepL]at D
   obtain⟨O,rfl,u1,aa,Y,M,u2,ac,Z,N,e3⟩:=D
   subst e3 Z
   have hc:cs=rows.flatten++cs.drop (n*sz):=by
    have:=I.eq
    rw[drop_zero]at this
    rw[←this,take_append_drop]
   have J:Sat G ((b,.cells e (rows.flatten++cs.drop (n*sz)))::[]++ρ) w':=by rw[←hc];exact E
   subst M
   have hf:=Rep.freeze (c:=n) (cap:=cap) J I.row I.len.symm (by rw[I.len];exact h1) h2
   simp only[Rep,RepL]
   exact⟨O,rfl,_,_,Y,by simpa[Rep]using hf,u2,[],rfl,tU hx N,rfl⟩⟩
def XOVER {k tS tR e E F o2 n2 c2 sz k1:Nat} {cs:List AV} {J Z:TypeId} {rows:List (List AV)}
  (I:∀(w:World) (vs:Array Value),(callFunc k vs).run P w=((Extern.SlicesOverlaps.overlaps #[tS,tS] #[tR] vs).run P w).andThen λv w'=>.ok (.value v) w')
  (ht:P.underlying tS=some (.slice e)) (hz:(P.info? e).map (·.size)=some sz) (V:E≠F) (h1:σ.get E=some (.tok J k1)) (h2:σ.get F=some (.cells Z cs)) (hc:cs≠[]):
  XSpec G P (.func (.func k) #[] #[]) [.own (some E) J sz rows,.sc (.slice (some ⟨F,o2,none⟩) n2 c2)] σ (λr σ'=>r= .bool false/\σ'=σ):=by
 refine⟨k,#[],#[],rfl,λρ w vs M hA=>?_⟩
 simp only[map_nil,nil_append,append_nil,Array.toList]at hA
 obtain⟨u,v,rfl,hu,hv⟩:=gT hA
 simp only[Rep]at hu hv
 obtain⟨cap,rfl,_,_,aa,_⟩:=hu
 subst hv
 obtain⟨v1,D,_,_⟩:=M.obj E _ (mem_append.2 (.inl (rv h1)))
 obtain⟨v2,N,_,X⟩:=M.obj F _ (mem_append.2 (.inl (rv h2)))
 obtain⟨i,hi,O⟩:=Option.map_eq_some_iff.1 hz
 have T:=X.length
 have Y:v2.size≠0:=by
  intro h0
  have:cs.length=0:=by rw[←T];simpa using h0
  exact hc (eq_nil_of_length_eq_zero this)
 have hr:=Lib.run_overlaps_apart (P:=P) w tS tR e ht sz (λw=>by simp[sizeOf,typeInfo,hi,O]) ⟨E,0,none⟩ ⟨F,o2,none⟩ rows.length cap n2 c2 V J Z v1.size v2.size
  (by simp[World.shape?,D]) (by simp[World.shape?,N]) Y (by simp[World.frozen?,D]) (by simp[World.frozen?,D])
 refine⟨.bool false,.bool false,σ,w,?_,⟨rfl,rfl⟩,M,Ev.refl σ w,by simp only[Rep]⟩
 rw[I,hr]
 rfl
end
def fnV (k:Nat):AV:=.sc (.func (.func k) #[] #[])
section
variable {G:Glob} {P:Program}
def q9 {t e:TypeId} {f1 f2 f3 f4:Nat} {env:Env} {σ:Store} {K:AV->Store->Prop} (N:P.underlying t=some (.array 4 e)) (F:(P.info? t).bind (·.zero)=some (.agg #[.nilFunc,.nilFunc,.nilFunc,.nilFunc]))
  (M:bC P e=some 1) (I:K (.agg [fnV f1,fnV f2,fnV f3,fnV f4]) σ):RAW G P (.build t #[(0,.func f1),(1,.func f2),(2,.func f3),(3,.func f4)]) env σ K ⟨⟩:=by
 refine dS _ (λρ w O op J V T=>?_) I
 refine⟨.agg #[.func (.func f1) #[] #[],.func (.func f2) #[] #[],.func (.func f3) #[] #[],.func (.func f4) #[] #[]],?_,?_⟩
 ·obtain⟨i,hi,D⟩:∃i,P.info? t=some i/\i.zero=some (.agg #[.nilFunc,.nilFunc,.nilFunc,.nilFunc]):=by
   cases h:P.info? t with
   |none=>simp[h]at F
   |some i=>exact⟨i,rfl,by simpa[h]using F⟩
  have E:(zeroValue t).run P w= .ok (.agg #[.nilFunc,.nilFunc,.nilFunc,.nilFunc]) w:=by simp[zeroValue,typeInfo,hi,D]
  simp[execOp,J,Instr.build,E,run_underlying N,bF M,Act.eval];rfl
 ·simp only[fnV,Rep,RepL]
  refine⟨_,rfl,by simp[Value.oneCell'],_,_,rfl,rfl,_,_,rfl,rfl,_,_,rfl,rfl,_,_,rfl,rfl,rfl⟩
def bI {t e:TypeId} {L:Nat} {i j:Nat} {n:Nat} {kc:IntKind} {cs:List AV} {env:Env} {σ:Store} {K:AV->Store->Prop} (hi:env.get i= .agg cs) (hj:env.get j= .int kc (n:Int)) (hu:P.underlying t=some (.array L e)) (E:(P.underlying e).map aggD=some false)
  (hs:bC P e=some 1) (hl:cs.length=L) (hn:n<L) (hk:K (cs.getD n .any) σ):RAW G P (.index t (.tmp i) (.tmp j)) env σ K ⟨⟩:=by
 obtain⟨d,E,V⟩:∃d,P.underlying e=some d/\aggD d=false:=by
  cases h:P.underlying e with
  |none=>simp[h]at E
  |some d=>exact⟨d,rfl,by simpa[h]using E⟩
 refine dS _ (λρ w O op ho hS T=>?_) hk
 have I:=T i
 have J:=T j
 rw[hi]at I
 rw[hj]at J
 simp only[Rep]at I J
 obtain⟨vs,F,aa,Z⟩:=I
 have D:=Z.length
 have N:n+1<=vs.size:=by simp at D;omega
 have F:O.eval (.tmp i)= .agg vs:=F
 have e2:O.eval (.tmp j)= .int kc n:=J
 refine⟨(vs.toList.drop n).headD undef,?_,?_⟩
 ·have Y:=ie E hs vs n (by rw[V];rfl) N w
  rw[V]at Y
  have hb:(0:Int)<=n/\(n:Int)<L:=by omega
  have M:=bF hs w;simp[execOp,ho,Instr.index,F,e2,asIntOf,run_underlying hu,hb,M,Y];intro h;omega
 ·have X:n<cs.length:=by omega
  have g:=Z.get n X (by simp at D ⊢;omega)
  have e3:(vs.toList.drop n).headD undef=vs.toList[n]'(by simp;omega):=by
   rw[drop_eq_getElem_cons (by simp;omega)];rfl
  rw[e3,getD_eq_getElem?_getD,getElem?_eq_getElem X];exact g
end
def uc {x:Nat×AObj} {κ σ:Store}:SubN (x::(κ++σ)) (κ++x::σ):=o6 perm_middle.symm
def uF {x y:Nat×AObj} {κ σ:Store}:SubN (x::y::(κ++σ)) (κ++x::y::σ):=SubN.trans (SubN.cons uc _) uc
def sY {x y:Nat×AObj} {κ σ:Store}:SubN (y::x::(κ++σ)) (κ++x::y::σ):=SubN.trans (o6 (List.Perm.swap _ _ _)) uF
def SubN.push {x y:Nat×AObj} {l:Store}:SubN ((x::l)++[y]) (x::y::l):=by
 rw[cons_append];exact SubN.cons (o6 (perm_append_comm (l₁:=l) (l₂:=[y]))) _
def uT {x y:Nat×AObj} {l:Store}:SubN (x::y::l) ((x::l)++[y]):=by
 rw[cons_append];exact SubN.cons (o6 (perm_append_comm (l₁:=[y]) (l₂:=l))) _
def uG {x y:Nat×AObj} {κ σ:Store}:SubN ((x::(σ++κ))++[y]) (x::y::(κ++σ)):=
 SubN.trans (SubN.push) (SubN.cons (SubN.cons (o6 perm_append_comm) _) _)
def uP {x y:Nat×AObj} {κ σ:Store}:SubN (x::y::(κ++σ)) ((x::(σ++κ))++[y]):=
 SubN.trans (SubN.cons (SubN.cons (o6 perm_append_comm) _) _) uT
section
variable {G:Glob} {P:Program}
def aj.fr {k:FuncId} {args:List AV} {J:Store} {R R2:AV->Store->Prop} (σr:Store) (h:aj G P k args J R)
  (hk:∀r σ',R r σ'->(σ'++σr:Store).keys.Nodup->∃E,SubN E (σ'++σr)/\R2 r E):aj G P k args (J++σr) R2:=
 ⟨h.1,λρ w vs T O=>by
  rw[append_assoc]at T O
  refine(h.2 (σr++ρ) w vs T O).mono λe w' ⟨v,r,σ',Z,Y,V,N,F⟩=>?_
  have D:Sat G ((σ'++σr)++ρ) w':=by rwa [append_assoc]
  obtain⟨E,M,X⟩:=hk r σ' Y D.nodup_left
  rw[←append_assoc]at F
  exact⟨v,r,E,Z,X,D.subN M,(N.frame (λq I=>I)).trans (rN M.1 w'),Rep.sub (λq I=>by
   rcases mem_append.1 I with I|I
   ·exact mem_append.2 (.inl (M.1 q I))
   ·exact mem_append.2 (.inr I)) F⟩⟩
def du.fr {f:Value} {args:List AV} {E:Store} {R R2:AV->Store->Prop} (σr:Store) (h:du G P f args E R)
  (F:∀r σ',R r σ'->(σ'++σr:Store).keys.Nodup->∃D,SubN D (σ'++σr)/\R2 r D):du G P f args (E++σr) R2:=by
 obtain⟨k,a,b,e,h⟩:=h
 exact⟨k,a,b,e,h.fr σr F⟩
def bS {f:Value} {args D:List AV} {σ:Store} {K:AV->Store->Prop} {t:Tag K} {R:AV->Store->Prop} (E σr:Store)
  (h:du G P f D E R) (I:aE args D) (M:SubN (E++σr) σ) (J:∀r σ',R r σ'->(σ'++σr:Store).keys.Nodup->∃F,SubN F (σ'++σr)/\K r F):CALL G P f args σ K t:=
 bv (E++σr) [] (h.fr σr J) I (by rwa [append_nil]) (λr σ' h=>by rwa [append_nil])
end
end Go.Av
