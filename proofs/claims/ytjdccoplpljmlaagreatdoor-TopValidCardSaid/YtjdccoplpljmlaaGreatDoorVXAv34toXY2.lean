/-
  ABSTRACT VALUES, 34: slices over cells of the call's own: the empty one cut; pieces put in place; two blocks do not overlap.
-/
import Derived.Test.YtjdccoplpljmlaaGreatDoorVXAv29toXAv33
import Derived.Lib.Overlaps
import Derived.Test.YtjdccoplpljmlaaGreatDoorVXOpItoXCY1
import Derived.Test.YtjdccoplpljmlaaGreatDoorVXCY2toXAv27
import Derived.Test.YtjdccoplpljmlaaGreatDoorVXAv21toXAv25
namespace Go.Av
open Go Go.RowKit List
set_option linter.unusedSimpArgs false
set_option linter.unusedVariables false
theorem ej {A B B' C:List AV} {o:Nat} (F:o=A.length) (E:B'.length=B.length):splice (A++(B++C)) o B'=A++(B'++C):=by
 subst F
 rw[aR _ _ _ (by simp;omega),take_append_of_le_length (Nat.le_refl _),take_length,←drop_drop,drop_left,append_assoc,E,drop_left]
theorem jU (l:List AV) (o:Nat) (h:o<=l.length):splice l o []=l:=by
 rw[aR _ _ _ (by simpa using h)];simp
theorem RowsAt.zero {sz:Nat} {cs:List AV} {o:Nat} (h:o<=cs.length):RowsAt sz cs o 0 []:=⟨rfl,by simp,by omega,by simp⟩
theorem RowsAt.mid {sz:Nat} {A C:List AV} {rows:List (List AV)} {o n:Nat} (J:o=A.length) (I:rows.length=n) (E:∀r∈rows,r.length=sz):RowsAt sz (A++(rows.flatten++C)) o n rows:=by
 subst J I
 have F:=ap rows E
 refine⟨rfl,E,by rw[length_append,length_append,F];omega,?_⟩
 rw[drop_left,take_append_of_le_length (by omega),take_of_length_le (by omega)]
theorem aO.mk0 {e:TypeId} {sz b n:Nat} {rows:List (List AV)} (F:n=rows.length) (I:rows.length<=maxLen) (E:∀r∈rows,r.length=sz):aO e sz rows (.sc (.slice (some ⟨b,0,none⟩) n n)) [(b,.cells e rows.flatten)]:=by
 have:=aO.mk (e:=e) (b:=b) (pad:=[]) F (Nat.le_refl _) I E (by rw[append_nil,ap rows E])
 rw[append_nil,←F]at this
 exact this
theorem RowsAt.tail {sz:Nat} {rows:List (List AV)} {pad:List AV} (h:∀r∈rows,r.length=sz) {l:Nat} (E:l<=rows.length):RowsAt sz (rows.flatten++pad) (l*sz) (rows.length-l) (rows.drop l):=by
 have:=RowsAt.cut (pad:=pad) h (l:=l) (k:=rows.length-l) (by omega)
 rwa [take_of_length_le (by rw[length_drop];omega)]at this
theorem RowsAt.head {sz:Nat} {rows:List (List AV)} {pad:List AV} (h:∀r∈rows,r.length=sz) {l:Nat} (E:l<=rows.length):RowsAt sz (rows.flatten++pad) 0 l (rows.take l):=by
 have:=RowsAt.cut (pad:=pad) h (l:=0) (k:=l) (by omega)
 simpa using this
theorem RowsAt.tail' {sz o:Nat} {rows:List (List AV)} {pad:List AV} (h:∀r∈rows,r.length=sz) {l:Nat} (E:l<=rows.length) (F:o=l*sz\/l=rows.length/\o=0):RowsAt sz (rows.flatten++pad) o (rows.length-l) (rows.drop l):=by
 rcases F with rfl|⟨rfl,rfl⟩
 ·exact RowsAt.tail h E
 ·rw[Nat.sub_self,drop_length]
  exact RowsAt.zero (Nat.zero_le _)
theorem lh {sz:Nat} {rows:List (List AV)} {pad:List AV} (h:∀r∈rows,r.length=sz) {l:Nat} (F:l<=rows.length):(rows.flatten++pad).take (l*sz)=(rows.take l).flatten:=by
 have E:=ap rows h
 rw[take_append_of_le_length (by rw[E];exact Nat.mul_le_mul_right _ F),gy h]
theorem Store.set_same:∀{σ:Store} {b:Nat} {x:AObj},σ.get b=some x->σ.set b x=σ
 |[],b,x,h=>by simp[Store.get]at h
 |(k,y)::σ,b,x,h=>by
  simp only[Store.get]at h
  simp only[Store.set]
  split at h
  ·rename_i E
   injection h with h
   subst h
   rw[if_pos E]
  ·rename_i E
   rw[if_neg E,Store.set_same h]
theorem ju {sz:Nat} {L:List (List AV)} {pad:List AV} {i:Nat} {r:List AV} (h:∀r∈L,r.length=sz) (E:L[i]? =some r):((L.flatten++pad).drop (i*sz)).take sz=r:=by
 obtain⟨hi,E⟩:=List.getElem?_eq_some_iff.1 E
 rw[iT h hi,E]
theorem jv {sz:Nat} {L:List (List AV)} {pad:List AV} {i:Nat} {c:List AV} (h:∀r∈L,r.length=sz) (hi:i<L.length) (I:c.length=sz):splice (L.flatten++pad) (i*sz) c=(L.set i c).flatten++pad:=by
 have E:=cS (off:=0) (c:=c) (sz:=sz) (by omega) (pad:=pad) h hi
 have F:splice L[i] 0 c=c:=by
  have:=h L[i] (getElem_mem hi)
  rw[aR _ _ _ (by omega)]
  simp
  omega
 rw[Nat.add_zero,F]at E
 exact E
section
variable {G:Glob} {P:Program} {σ:Store} {env:Env} {K:AV->Store->Prop}
theorem aS {t e:TypeId} {x:Operand} {lo hi O:Option Operand} {l h m b o n cap sz:Nat} (X V T:Nat) (hu:P.underlying t=some (.slice e)) (hn:(P.info? e).map (·.size)=some sz)
  (hx:(SOpd.of x).eval G env= .sc (.slice (some ⟨b,o,none⟩) n cap)) (I:bndO G env lo 0 l) (F:bndO G env hi n h) (M:bndO G env O cap m) (J:O.isSome=true->hi.isSome=true) (Y:l<=h) (Z:h<=m) (h3:m<=cap)
  (ho:(if m=l then o else o+l*sz)=X) (N:h-l=V) (E:m-l=T) (hk:K (.sc (.slice (some ⟨b,X,none⟩) V T)) σ):RAW G P (.slice t x lo hi O) env σ K ⟨⟩:=by
 subst ho N E
 exact oi hu hn hx I F M J Y Z h3 hk
theorem gi {O sT elem e:TypeId} {b o T V sz:Nat} {x y:Operand} {cs:List AV} {ys:List (List AV)} (m:Nat) (cs':List AV) (hu:P.underlying O=some (.slice elem)) (J:(P.info? elem).map (·.size)=some sz)
  (M:(SOpd.of x).eval G env= .sc (.slice (some ⟨b,o,none⟩) T V)) (X:σ.get b=some (.cells e cs)) (N:srcO σ sz ((SOpd.of y).eval G env) ys) (Z:min ys.length T=m) (F:m≠0) (E:o+m*sz<=cs.length)
  (I:splice cs o (ys.take m).flatten=cs') (Y:K (.int .i64 (m:Nat)) (σ.set b (.cells e cs'))):
  RAW G P (.call (.mk (.builtin .copy) #[x,y] #[O,sT])) env σ K ⟨⟩:=by
 subst Z I
 exact lA hu J M X N E (λh=>absurd h F) (λ_=>Y)
theorem li {O sT elem e:TypeId} {b o T X sz:Nat} {x y:Operand} {cs:List AV} {ys:List (List AV)} (m:Nat) (cs':List AV) (Z:P.underlying O=some (.slice elem)) (J:(P.info? elem).map (·.size)=some sz)
  (M:(SOpd.of x).eval G env= .sc (.slice (some ⟨b,o,none⟩) T X)) (V:σ.get b=some (.cells e cs)) (N:srcO σ sz ((SOpd.of y).eval G env) ys) (Y:min ys.length T=m) (E:o+m*sz<=cs.length)
  (I:splice cs o (ys.take m).flatten=cs') (F:K (.int .i64 (m:Nat)) (σ.set b (.cells e cs'))):
  RAW G P (.call (.mk (.builtin .copy) #[x,y] #[O,sT])) env σ K ⟨⟩:=by
 subst Y I
 refine lA Z J M V N E (λh=>?_) (λ_=>F)
 rw[h]at F E
 rw[take_zero,flatten_nil,jU _ _ (by omega),Store.set_same V]at F
 exact F
theorem ou {t e:TypeId} {x:Operand} {lo hi M:Option Operand} {J:Option Addr} {sz:Nat} (hu:P.underlying t=some (.slice e)) (hn:(P.info? e).map (·.size)=some sz)
  (hx:(SOpd.of x).eval G env= .sc (.slice J 0 0)) (F:bndO G env lo 0 0) (E:bndO G env hi 0 0) (I:bndO G env M 0 0) (N:M.isSome=true->hi.isSome=true)
  (Z:K (.sc (.slice J 0 0)) σ):RAW G P (.slice t x lo hi M) env σ K ⟨⟩:=by
 refine ca _ (λρ w a op ho T O=>?_) Z
 have V:=ar (G:=G) T O x
 rw[hx]at V
 simp only[Rep]at V
 obtain⟨i,X,Y⟩:=Option.map_eq_some_iff.1 hn
 refine⟨_,?_,by simp only[Rep];rfl⟩
 have ev:∀{y:Operand} {k:IntKind} {v:Nat},(SOpd.of y).eval G env= .int k (v:Nat)->a.eval y= .int k (v:Nat):=by
  intro y k v hy
  have:=ar (G:=G) T O y
  rw[hy]at this
  simpa only[Rep]using this
 cases lo<;>cases hi<;>cases M<;>simp only[bndO,Option.isSome,Bool.false_eq_true,forall_const,implies_true,reduceCtorEq]at F E I N
 all_goals(
  try obtain⟨k1,F⟩:=F
  try obtain⟨k2,E⟩:=E
  try obtain⟨k3,I⟩:=I
  try have e1:=ev F
  try have e2:=ev E
  try have e3:=ev I
  simp_all[execOp,Instr.sliceAt,Instr.slice,run_underlying hu,Instr.sliceBounds,Instr.sliceBound,asIntOf,sizeOf,typeInfo])
theorem RowsAt.grow {sz:Nat} {cs:List AV} {n:Nat} {rows ys:List (List AV)} (h:RowsAt sz cs 0 n rows) (M:∀r∈ys,r.length=sz) (N:(n+ys.length)*sz<=cs.length):RowsAt sz (splice cs (0+n*sz) ys.flatten) 0 (n+ys.length) (rows++ys):=by
 have I:=ap ys M
 have F:=ap rows h.row
 have J:=h.eq
 rw[drop_zero]at J
 rw[Nat.add_mul]at N
 refine⟨by rw[length_append,h.len],λr E=>by rcases mem_append.1 E with E|E<;>first|exact h.row r E|exact M r E,?_,?_⟩
 ·rw[gO (by omega),Nat.add_mul];omega
 ·rw[aR _ _ _ (by omega),Nat.zero_add,J,drop_zero,flatten_append,take_append_of_le_length (by rw[length_append,F,I,h.len,Nat.add_mul];omega),take_of_length_le (by rw[length_append,F,I,h.len,Nat.add_mul];omega)]
theorem RowsAt.all {sz:Nat} {rows:List (List AV)} {pad:List AV} (h:∀r∈rows,r.length=sz) {n:Nat} (E:n=rows.length):RowsAt sz (rows.flatten++pad) 0 n rows:=by
 subst E
 simpa using RowsAt.head (pad:=pad) h (Nat.le_refl _)
theorem RowsAt.split {sz:Nat} {cs:List AV} {n:Nat} {rows:List (List AV)} (h:RowsAt sz cs 0 n rows):cs=rows.flatten++cs.drop (n*sz):=by
 have:=h.eq
 rw[drop_zero]at this
 rw[←this,take_append_drop]
theorem RowsAt.pre {sz:Nat} {cs:List AV} {n:Nat} {rows:List (List AV)} (h:RowsAt sz cs 0 n rows) {l:Nat} (F:l<=n):RowsAt sz cs 0 l (rows.take l):=by
 have E:=RowsAt.head (pad:=cs.drop (n*sz)) h.row (l:=l) (by rw[h.len];exact F)
 rwa [←h.split]at E
theorem RowsAt.suf {sz:Nat} {cs:List AV} {n o:Nat} {rows:List (List AV)} (h:RowsAt sz cs 0 n rows) {l:Nat} (F:l<=n) (I:o=l*sz\/l=n/\o=0):RowsAt sz cs o (n-l) (rows.drop l):=by
 have E:=RowsAt.tail' (pad:=cs.drop (n*sz)) (o:=o) h.row (l:=l) (by rw[h.len];exact F) (by rw[h.len];exact I)
 rwa [←h.split,h.len]at E
theorem mT {t Y e e':TypeId} {sz bytes b n cap:Nat} {x y:Operand} {rows:List (List AV)} {cs z:List AV}
  (hu:P.underlying t=some (.slice e)) (Z:P.underlying Y=some (.slice e')) (hi:(P.info? e).map (λi=>(i.size,i.bytes))=some (sz,bytes)) (hz:cu P e=some z) (T:z.length=sz) (I:sz≠0) (J:bytes≠0)
  (N:(SOpd.of x).eval G env= .sc (.slice (some ⟨b,0,none⟩) n cap)) (X:σ.get b=some (.cells e cs)) (F:RowsAt sz cs 0 n rows) (V:cap*sz<=cs.length) (hn:n<=cap)
  (O:srcO σ sz ((SOpd.of y).eval G env) []) (E:n*bytes<=140737488355328)
  (M:K (.sc (.slice (some ⟨b,0,none⟩) n cap)) σ):RAW G P (.call (.mk (.builtin .append) #[x,y] #[t,Y])) env σ K ⟨⟩:=by
 have hf:=F.fit
 refine ey hu Z hi hz T I J N X F (by omega) O (by simpa using E) (λ_=>?_) (λh=>by simp at h;omega)
 rw[flatten_nil,jU _ _ (by omega),Store.set_same X]
 exact M
theorem jc {t tx e e':TypeId} {sz bytes b n cap:Nat} {x y:Operand} {rows ys:List (List AV)} {cs z:List AV}
  (hu:P.underlying t=some (.slice e)) (hk:P.underlying tx=some (.slice e')) (hi:(P.info? e).map (λi=>(i.size,i.bytes))=some (sz,bytes)) (hz:cu P e=some z) (ad:z.length=sz) (O:sz≠0) (V:bytes≠0)
  (Z:(SOpd.of x).eval G env= .sc (.slice (some ⟨b,0,none⟩) n cap)) (hg:σ.get b=some (.cells e cs)) (F:RowsAt sz cs 0 n rows) (J:cap*sz<=cs.length) (X:cap<=maxLen)
  (ac:srcO σ sz ((SOpd.of y).eval G env) ys) (T:∀r∈ys,r.length=sz) (I:(n+ys.length)*bytes<=140737488355328)
  (N:∀M E cs' σ',RowsAt sz cs' 0 (n+ys.length) (rows++ys)->E*sz<=cs'.length->n+ys.length<=E->E<=maxLen->(M=b/\σ'=σ.set b (.cells e cs')\/M∉σ.keys/\σ'=(M,.cells e cs')::σ)->
   K (.sc (.slice (some ⟨M,0,none⟩) (n+ys.length) E)) σ'):RAW G P (.call (.mk (.builtin .append) #[x,y] #[t,tx])) env σ K ⟨⟩:=by
 have hf:=F.fit
 have ag:=ap ys T
 refine ey hu hk hi hz ad O V Z hg F (by omega) ac I (λhr=>?_) (λ_ M E pad hb h1 h2 h3 h4=>?_)
 ·have hm:(n+ys.length)*sz<=cs.length:=Nat.le_trans (Nat.mul_le_mul_right _ hr) J
  have Y:=hm
  rw[Nat.add_mul]at Y
  exact N b cap _ _ (F.grow T hm) (by rw[gO (by omega)];exact J) hr X (.inl ⟨rfl,rfl⟩)
 ·exact N M E _ _ (RowsAt.all h3 (by rw[length_append,F.len])) (by rw[h4];exact Nat.le_refl _) h1 h2 (.inr ⟨hb,rfl⟩)
theorem aj.freezeT {k:FuncId} {args:List AV} {T:AV} (h:aj G P k args [] (λr σ=>(r=T/\σ=[])\/∃b e n cap cs sz rows x,r= .tup [.sc (.slice (some ⟨b,0,none⟩) n cap),x]/\σ=[(b,.cells e cs)]/\RowsAt sz cs 0 n rows/\n<=cap/\cap<=maxLen/\T= .tup [.lst sz rows,x]/\x.flat=true)):Pure G P k args T:=
 ⟨h.1,λρ w vs hS hA=>(h.2 ρ w vs hS hA).mono λen w' ⟨v,r,σ',X,hr,F,I,E⟩=>by
  rcases hr with⟨rfl,rfl⟩|⟨b,e,n,cap,cs,sz,rows,x,rfl,rfl,J,h1,h2,rfl,hx⟩
  ·exact⟨v,r,[],X,⟨rfl,rfl⟩,F,I,E⟩
  ·have Y:=SubN.nil [(b,AObj.cells e cs)]
   refine⟨v,_,[],X,⟨rfl,rfl⟩,F.subN Y,I.trans (Ev.of_sub Y.1 _),?_⟩
   simp only[Rep,RepL]at E
   obtain⟨V,rfl,u1,ac,Z,N,u2,ad,e2,O,e3⟩:=E
   subst e3 e2
   have hc:cs=rows.flatten++cs.drop (n*sz):=by
    have:=J.eq
    rw[drop_zero]at this
    rw[←this,take_append_drop]
   have M:Sat G ((b,.cells e (rows.flatten++cs.drop (n*sz)))::[]++ρ) w':=by rw[←hc];exact F
   subst N
   have hf:=Rep.freeze (c:=n) (cap:=cap) M J.row J.len.symm (by rw[J.len];exact h1) h2
   simp only[Rep,RepL]
   exact⟨V,rfl,_,_,Z,by simpa[Rep]using hf,u2,[],rfl,AV.flat_rep hx O,rfl⟩⟩
theorem XOVER {k tS tR e F I o2 n2 c2 sz k1:Nat} {cs:List AV} {M e2:TypeId} {rows:List (List AV)}
  (J:∀(w:World) (vs:Array Value),(callFunc k vs).run P w=((Extern.SlicesOverlaps.overlaps #[tS,tS] #[tR] vs).run P w).andThen λv w'=>.ok (.value v) w')
  (ht:P.underlying tS=some (.slice e)) (hz:(P.info? e).map (·.size)=some sz) (X:F≠I) (h1:σ.get F=some (.tok M k1)) (h2:σ.get I=some (.cells e2 cs)) (hc:cs≠[]):
  XSpec G P (.func (.func k) #[] #[]) [.own (some F) M sz rows,.sc (.slice (some ⟨I,o2,none⟩) n2 c2)] σ (λr σ'=>r= .bool false/\σ'=σ):=by
 refine⟨k,#[],#[],rfl,λρ w vs N hA=>?_⟩
 simp only[map_nil,nil_append,append_nil,Array.toList]at hA
 obtain⟨u,v,rfl,hu,hv⟩:=g8 hA
 simp only[Rep]at hu hv
 obtain⟨cap,rfl,_,_,ac,_⟩:=hu
 subst hv
 obtain⟨v1,E,_,_⟩:=N.obj F _ (mem_append.2 (.inl (Store.get_mem h1)))
 obtain⟨v2,O,_,Y⟩:=N.obj I _ (mem_append.2 (.inl (Store.get_mem h2)))
 obtain⟨i,hi,T⟩:=Option.map_eq_some_iff.1 hz
 have V:=Y.length
 have Z:v2.size≠0:=by
  intro h0
  have:cs.length=0:=by rw[←V];simpa using h0
  exact hc (eq_nil_of_length_eq_zero this)
 have hr:=Lib.run_overlaps_apart (P:=P) w tS tR e ht sz (λw=>by simp[sizeOf,typeInfo,hi,T]) ⟨F,0,none⟩ ⟨I,o2,none⟩ rows.length cap n2 c2 X M e2 v1.size v2.size
  (by simp[World.shape?,E]) (by simp[World.shape?,O]) Z (by simp[World.frozen?,E]) (by simp[World.frozen?,E])
 refine⟨.bool false,.bool false,σ,w,?_,⟨rfl,rfl⟩,N,Ev.refl σ w,by simp only[Rep]⟩
 rw[J,hr]
 rfl
end
end Go.Av
namespace Go.Av
open Go Go.RowKit Go.Proofs List
set_option linter.unusedSimpArgs false
set_option linter.unusedVariables false
def Like (L0 L:List (List AV)):Prop:=L.length=L0.length/\∀r∈L,r∈L0
theorem Like.rfl' (L:List (List AV)):Like L L:=⟨rfl,λ_ h=>h⟩
theorem Like.set {L0 L:List (List AV)} (h:Like L0 L) {r:List AV} (F:r∈L0) (i:Nat):Like L0 (L.set i r):=
 ⟨by rw[length_set];exact h.1,λq E=>by
  rcases mem_or_eq_of_mem_set E with h1|h1
  ·exact h.2 q h1
  ·exact h1 ▸ F⟩
theorem Like.get {L0 L:List (List AV)} (h:Like L0 L) {i:Nat} (hi:i<L.length):L.getD i []∈L0:=by
 rw[getD_eq_getElem?_getD,getElem?_eq_getElem hi]
 exact h.2 _ (getElem_mem hi)
theorem Like.row {L0 L:List (List AV)} {sz:Nat} (h:Like L0 L) (E:∀r∈L0,r.length=sz):∀r∈L,r.length=sz:=λr F=>E r (h.2 r F)
structure RowF (sz:Nat) (L:List (List AV)) (pad:List AV) (i:Nat):Prop where
 get:((L.flatten++pad).drop (0+i*sz)).take sz=L.getD i []
 len:sz<=((L.flatten++pad).drop (0+i*sz)).length
 fit:0+i*sz+sz<=(L.flatten++pad).length
 sz':(L.getD i []).length=sz
 set:∀c:List AV,c.length=sz->splice (L.flatten++pad) (0+i*sz) c=(L.set i c).flatten++pad
theorem rowF {sz:Nat} {L:List (List AV)} {pad:List AV} {i:Nat} (h:∀r∈L,r.length=sz) (hi:i<L.length):RowF sz L pad i:=by
 have F:L[i]? =some (L.getD i []):=by rw[getD_eq_getElem?_getD,getElem?_eq_getElem hi];rfl
 have E:=ap L h
 have J:i*sz+sz<=L.length*sz:=by rw[←Nat.succ_mul];exact Nat.mul_le_mul_right _ hi
 refine⟨by simpa using ju (pad:=pad) h F,?_,?_,?_,λc I=>by simpa using jv (pad:=pad) h hi I⟩
 ·rw[length_drop,length_append,E];omega
 ·rw[length_append,E];omega
 ·have:=mem_of_getElem? F;exact h _ this
abbrev rawS (b n cap:Nat):AV:=.sc (.slice (some ⟨b,0,none⟩) n cap)
theorem retI {x:AV} {R:AV->Store->Prop} {σ:Store} (h:R x σ):RET x σ R:=⟨x,σ,AVle.rfl' _,SubN.refl _,h⟩
def CmpF (G:Glob) (L0:List (List AV)) (f:Value):Prop:=∀r∈L0,∀s∈L0,∃k:Int,dV G Tryz.prog f [.agg r,.agg s] (.int .i64 k)
theorem ek {G:Glob} {P:Program} {env:Env} {σ:Store} {K:AV->Store->Prop} {t:TypeId} {i:Nat} {n:Int} (hi:env.get i= .int .u64 n) (N:K (.int .u64 (n / 2)) σ):
  RAW G P (.binOp .shr t (.tmp i) (.const (.int .u64 1)) t) env σ K ⟨⟩:=by
 refine ca (.int .u64 (n / 2)) (λρ w a o O T M=>?_) N
 have E:=M i
 rw[hi]at E
 simp only[Rep]at E
 refine⟨.int .u64 (n / 2),?_,by simp only[Rep]⟩
 have F:a.eval (.tmp i)= .int .u64 n:=E
 have I:a.eval (.const (.int .u64 1))= .int .u64 1:=rfl
 have J:Op.shift .shr .u64 n .u64 1=pure (.int .u64 (n / 2)):=shift_shr .u64 .u64 n 1 (by decide) (by decide)
 simp[execOp,O,F,I,eqGuard,binOp,J]
section
variable (G:Glob)
set_option maxHeartbeats 4000000 in
theorem f373 (b cap:Nat) (L0 L:List (List AV)) (pad:List AV) (N:∀r∈L0,r.length=7) (V:Like L0 L) (hn:L.length<1000000) (x y k:Nat) (hx:x+k<=L.length) (hy:y+k<=L.length) (f:AV):
  aj G Tryz.prog 373 [rawS b L.length cap,.int .i64 x,.int .i64 y,.int .i64 k,f] [(b,.cells 100 (L.flatten++pad))]
   (λr σ'=>r= .tup []/\∃L',Like L0 L'/\σ'=[(b,.cells 100 (L'.flatten++pad))]):=by
 refine aj.w c373 ?_
 unfold s373 r373
 (repeat' (simp only[EVz,seval,↓reduceIte,EV6,EV7]))
 refine bv (ι:=Nat×List (List AV)) (λp=>p.1<=k/\Like L0 p.2) (λp=>k-p.1) (λp=>[(0,rawS b L.length cap),(1,.int .i64 x),(2,.int .i64 y),(3,.int .i64 k),(10,.int .i64 p.1)]) (λp=>[(b,.cells 100 (p.2.flatten++pad))]) (0,L) ⟨Nat.zero_le _,V⟩ (Weak.rfl' _ _) ?_
 rintro⟨i,M⟩ ⟨hi,E⟩
 simp only at hi E ⊢
 have ac:M.length=L.length:=E.1.trans V.1.symm
 by_cases ad:i<k
 ·have J:decide ((i:Int)<(k:Int))=true:=decide_eq_true (by omega)
  have w1:IntKind.i64.wrap ((x:Int)+(i:Int))=((x+i:Nat):Int):=by rw[av (by omega) (by omega)];omega
  have w2:IntKind.i64.wrap ((y:Int)+(i:Int))=((y+i:Nat):Int):=by rw[av (by omega) (by omega)];omega
  have w3:IntKind.i64.wrap ((i:Int)+1)=((i+1:Nat):Int):=by rw[av (by omega) (by omega)];omega
  have r1:=rowF (pad:=pad) (E.row N) (i:=x+i) (by omega)
  have r2:=rowF (pad:=pad) (E.row N) (i:=y+i) (by omega)
  have m1:=E.get (i:=x+i) (by omega)
  have m2:=E.get (i:=y+i) (by omega)
  obtain⟨X,hX⟩:∃X,M.getD (x+i) []=X:=⟨_,rfl⟩
  obtain⟨Y,hY⟩:∃Y,M.getD (y+i) []=Y:=⟨_,rfl⟩
  obtain⟨O,a2,a3,T,a5⟩:=r1
  obtain⟨c1,c2,c3,c4,c5⟩:=r2
  rw[hX]at O T m1
  rw[hY]at c1 c4 m2
  have M1:Like L0 (M.set (x+i) Y):=E.set m2 _
  have r3:=rowF (pad:=pad) (M1.row N) (i:=y+i) (by rw[length_set];omega)
  have I:=a5 Y c4
  have F:=r3.set X T
  have Z:=r3.fit
  have M2:Like L0 ((M.set (x+i) Y).set (y+i) X):=M1.set m1 _
  (repeat' (first|(with_reducible refine AI (by omega) ?_)|simp only[EVz,seval,↓reduceIte,EV6,EV7,J,w1,w2,w3,O,c1,I,F,Int.toNat_natCast]|(with_reducible first|refine ae ?_ ?_|refine af ?_)))
  all_goals exact⟨(i+1,(M.set (x+i) Y).set (y+i) X),⟨by simp only;omega,M2⟩,by simp only;omega,Weak.rfl' _ _⟩
 ·have J:decide ((i:Int)<(k:Int))=false:=decide_eq_false (by omega)
  (repeat' (simp only[EVz,seval,↓reduceIte,EV6,EV7,J]))
  all_goals exact retI ⟨rfl,M,E,rfl⟩
set_option maxHeartbeats 4000000 in
theorem f307 (b cap:Nat) (L0 L:List (List AV)) (pad:List AV) (V:∀r∈L0,r.length=7) (Z:Like L0 L) (hn:L.length<1000000) (x y:Nat) (hx:x<=y) (hy:y<=L.length) (f:Value) (hf:CmpF G L0 f):
  aj G Tryz.prog 307 [rawS b L.length cap,.int .i64 x,.int .i64 y,.sc f] [(b,.cells 100 (L.flatten++pad))]
   (λr σ'=>r= .tup []/\∃L',Like L0 L'/\σ'=[(b,.cells 100 (L'.flatten++pad))]):=by
 refine aj.w c307 ?_
 unfold s307 r307
 have w0:IntKind.i64.wrap ((x:Int)+1)=((x+1:Nat):Int):=by rw[av (by omega) (by omega)];omega
 (repeat' (simp only[EVz,seval,↓reduceIte,EV6,EV7,w0]))
 refine bv (ι:=Nat×List (List AV)) (λp=>x<p.1/\p.1<=L.length+1/\Like L0 p.2) (λp=>L.length+1-p.1) (λp=>[(0,rawS b L.length cap),(1,.int .i64 x),(2,.int .i64 y),(3,.sc f),(8,.int .i64 p.1)]) (λp=>[(b,.cells 100 (p.2.flatten++pad))]) (x+1,L) ⟨by simp only;omega,by simp only;omega,Z⟩ (Weak.rfl' _ _) ?_
 rintro⟨i,M⟩ ⟨ac,hi,J⟩
 simp only at ac hi J ⊢
 have al:M.length=L.length:=J.1.trans Z.1.symm
 by_cases aw:i<y
 ·have O:decide ((i:Int)<(y:Int))=true:=decide_eq_true (by omega)
  have w3:IntKind.i64.wrap ((i:Int)+1)=((i+1:Nat):Int):=by rw[av (by omega) (by omega)];omega
  (repeat' (simp only[EVz,seval,↓reduceIte,EV6,EV7,O]))
  refine bv (ι:=Nat×List (List AV)) (λp=>x<=p.1/\p.1<=i/\Like L0 p.2) (λp=>p.1) (λp=>[(0,rawS b L.length cap),(1,.int .i64 x),(2,.int .i64 y),(3,.sc f),(8,.int .i64 i),(9,.int .i64 p.1)]) (λp=>[(b,.cells 100 (p.2.flatten++pad))]) (i,M) ⟨by simp only;omega,by simp only;omega,J⟩ (Weak.rfl' _ _) ?_
  rintro⟨j,N⟩ ⟨ad,hj,E⟩
  simp only at ad hj E ⊢
  have an:N.length=L.length:=E.1.trans Z.1.symm
  by_cases bb:x<j
  ·have T:decide ((x:Int)<(j:Int))=true:=decide_eq_true (by omega)
   have w1:IntKind.i64.wrap ((j:Int)-1)=((j-1:Nat):Int):=by rw[av (by omega) (by omega)];omega
   have r1:=rowF (pad:=pad) (E.row V) (i:=j) (by omega)
   have r2:=rowF (pad:=pad) (E.row V) (i:=j-1) (by omega)
   have m1:=E.get (i:=j) (by omega)
   have m2:=E.get (i:=j-1) (by omega)
   obtain⟨X,hX⟩:∃X,N.getD j []=X:=⟨_,rfl⟩
   obtain⟨Y,hY⟩:∃Y,N.getD (j-1) []=Y:=⟨_,rfl⟩
   obtain⟨a1,a2,a3,a4,a5⟩:=r1
   obtain⟨c1,c2,c3,c4,c5⟩:=r2
   rw[hX]at a1 a4 m1
   rw[hY]at c1 c4 m2
   have M1:Like L0 (N.set j Y):=E.set m2 _
   have r3:=rowF (pad:=pad) (M1.row V) (i:=j-1) (by rw[length_set];omega)
   have I:=a5 Y c4
   have F:=r3.set X a4
   have ah:=r3.fit
   have M2:Like L0 ((N.set j Y).set (j-1) X):=M1.set m1 _
   obtain⟨k0,ag⟩:=hf X m1 Y m2
   (repeat' (first|(with_reducible (refine ab (λh=>?_) (λh=>?_))<;>(try simp only[DZ]at h))|(with_reducible refine AI (by omega) ?_)|simp only[EVz,seval,↓reduceIte,EV6,EV7,T,w1,w3,a1,c1,I,F,Int.toNat_natCast]|(with_reducible first|refine ae ?_ ?_|refine af ?_)|(refine aD ag ?_)))
   all_goals first|exact⟨(j-1,(N.set j Y).set (j-1) X),⟨by simp only;omega,by simp only;omega,M2⟩,by simp only;omega,Weak.rfl' _ _⟩|exact⟨(i+1,N),⟨by simp only;omega,by simp only;omega,E⟩,by simp only;omega,Weak.rfl' _ _⟩
  ·have T:decide ((x:Int)<(j:Int))=false:=decide_eq_false (by omega)
   (repeat' (first|simp only[EVz,seval,↓reduceIte,EV6,EV7,T,w3]|(with_reducible first|refine ae ?_ ?_|refine af ?_)))
   all_goals exact⟨(i+1,N),⟨by simp only;omega,by simp only;omega,E⟩,by simp only;omega,Weak.rfl' _ _⟩
 ·have O:decide ((i:Int)<(y:Int))=false:=decide_eq_false (by omega)
  (repeat' (simp only[EVz,seval,↓reduceIte,EV6,EV7,O]))
  all_goals exact retI ⟨rfl,M,J,rfl⟩
end
theorem dE {G:Glob} {P:Program} {k:FuncId} {args:List AV} {σ:Store} {K:AV->Store->Prop} {t:Tag K} {R:AV->Store->Prop}
  (h:aj G P k args σ R) (F:∀r σ',R r σ'->K r σ'):CALL G P (.func (.func k) #[] #[]) args σ K t:=
 aP σ [] h.v (aA.rfl' _) (by simpa using SubN.refl σ) (λr σ' E=>by simpa using F r σ' E)
def iK (b:Nat) (L0:List (List AV)) (pad:List AV):AV->Store->Prop:=λr σ'=>r= .tup []/\∃L',Like L0 L'/\σ'=[(b,.cells 100 (L'.flatten++pad))]
theorem cy {G:Glob} {P:Program} {k:FuncId} {args:List AV} {σ:Store} {K:AV->Store->Prop} {t:Tag K} {b:Nat} {L0:List (List AV)} {pad:List AV}
  (h:aj G P k args σ (iK b L0 pad)) (F:∀L',Like L0 L'->K (.tup []) [(b,.cells 100 (L'.flatten++pad))]):CALL G P (.func (.func k) #[] #[]) args σ K t:=
 dE h (by rintro _ _ ⟨rfl,L',E,rfl⟩;exact F L' E)
theorem kC {x:Nat} (h:1<=x) (E:x<10000000):IntKind.i64.wrap ((x:Int)-1)=((x-1:Nat):Int):=by rw[av (by omega) (by omega)];omega
theorem wsub {x y:Nat} (h:y<=x) (E:x<10000000):IntKind.i64.wrap ((x:Int)-(y:Int))=((x-y:Nat):Int):=by rw[av (by omega) (by omega)];omega
theorem wadd {x y:Nat} (E:x<10000000) (F:y<10000000):IntKind.i64.wrap ((x:Int)+(y:Int))=((x+y:Nat):Int):=by rw[av (by omega) (by omega)];omega
section
variable (G:Glob)
set_option maxHeartbeats 4000000 in
theorem f354 (b cap:Nat) (L0 L:List (List AV)) (pad:List AV) (h7:∀r∈L0,r.length=7) (X:Like L0 L) (hn:L.length<1000000) (x m y:Nat) (hx:x<m) (hm:m<y) (hy:y<=L.length) (f:Value):
  aj G Tryz.prog 354 [rawS b L.length cap,.int .i64 x,.int .i64 m,.int .i64 y,.sc f] [(b,.cells 100 (L.flatten++pad))] (iK b L0 pad):=by
 have J:=λ(M:List (List AV)) (E:Like L0 M) (p q k:Nat) (h1:p+k<=M.length) (h2:q+k<=M.length)=>f373 G b cap L0 M pad h7 E (by rw[E.1,←X.1];exact hn) p q k h1 h2 (.sc f)
 have ac:∀{M},Like L0 M->M.length=L.length:=λE=>E.1.trans X.1.symm
 refine aj.w c354 ?_
 unfold s354 r354
 have w0:=wsub (x:=m) (y:=x) (by omega) (by omega)
 have w1:=wsub (x:=y) (y:=m) (by omega) (by omega)
 (repeat' (simp only[EVz,seval,↓reduceIte,EV6,EV7,w0,w1]))
 refine bv (ι:=Nat×Nat×List (List AV)) (λp=>(0<p.1/\p.1<=m/\0<p.2.1/\m+p.2.1<=L.length)/\Like L0 p.2.2) (λp=>p.1+p.2.1) (λp=>[(0,rawS b L.length cap),(2,.int .i64 m),(4,.sc f),(10,.int .i64 p.1),(11,.int .i64 p.2.1)]) (λp=>[(b,.cells 100 (p.2.2.flatten++pad))]) (m-x,y-m,L) ⟨by simp only;omega,X⟩ (Weak.rfl' _ _) ?_
 rintro⟨i,j,M⟩ ⟨⟨Y,hi,Z,hj⟩,E⟩
 simp only at Y hi Z hj E ⊢
 have I:=ac E
 have w2:=wsub (x:=m) (y:=i) (by omega) (by omega)
 by_cases ad:i=j
 ·have T:decide ((i:Int)≠(j:Int))=false:=decide_eq_false (by omega)
  have F:=J M E (m-i) m i (by omega) (by omega)
  rw[I]at F
  (repeat' (first|simp only[EVz,seval,↓reduceIte,EV6,EV7,T,w2]|(refine cy F (λN O=>?_))))
  all_goals exact retI ⟨rfl,N,O,rfl⟩
 ·have T:decide ((i:Int)≠(j:Int))=true:=decide_eq_true (by omega)
  by_cases ag:j<i
  ·have V:decide ((j:Int)<(i:Int))=true:=decide_eq_true (by omega)
   have F:=J M E (m-i) m j (by omega) (by omega)
   rw[I]at F
   have w3:=wsub (x:=i) (y:=j) (by omega) (by omega)
   (repeat' (first|simp only[EVz,seval,↓reduceIte,EV6,EV7,T,V,w2,w3]|(refine cy F (λN O=>?_))))
   all_goals exact⟨(i-j,j,N),⟨by simp only;omega,O⟩,by simp only;omega,Weak.rfl' _ _⟩
  ·have V:decide ((j:Int)<(i:Int))=false:=decide_eq_false (by omega)
   have F:=J M E (m-i) (m+j-i) i (by omega) (by omega)
   rw[I]at F
   have w3:=wsub (x:=j) (y:=i) (by omega) (by omega)
   have w4:=wadd (x:=m) (y:=j) (by omega) (by omega)
   have w5:=wsub (x:=m+j) (y:=i) (by omega) (by omega)
   (repeat' (first|simp only[EVz,seval,↓reduceIte,EV6,EV7,T,V,w2,w3,w4,w5]|(refine cy F (λN O=>?_))))
   all_goals exact⟨(i,j-i,N),⟨by simp only;omega,O⟩,by simp only;omega,Weak.rfl' _ _⟩
end
end Go.Av
