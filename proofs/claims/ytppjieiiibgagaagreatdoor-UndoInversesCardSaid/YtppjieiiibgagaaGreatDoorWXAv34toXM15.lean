/-
  ABSTRACT VALUES, 34: slices over cells of the call's own: the empty one cut; pieces put in place; two blocks do not overlap.
-/
import Derived.Test.YtppjieiiibgagaaGreatDoorWXAv30toXAv33
import Derived.Lib.Overlaps
import Derived.Test.YtppjieiiibgagaaGreatDoorWXC4
import Derived.Test.YtppjieiiibgagaaGreatDoorWXC5
import Derived.Test.YtppjieiiibgagaaGreatDoorWXC6
import Derived.Test.YtppjieiiibgagaaGreatDoorWXM1toXL31
import Derived.Test.YtppjieiiibgagaaGreatDoorWXE11toXL27
set_option linter.all false
namespace Go.Av
open Go Go.RowKit List
def fe {A B B' C:List AV} {o:Nat} (E:o=A.length) (D:B'.length=B.length):aM (A++(B++C)) o B'=A++(B'++C):=by
 subst E;rw[bp _ _ _ (by simp;omega),take_append_of_le_length (Nat.le_refl _),take_length,←drop_drop,drop_left,append_assoc,D,drop_left]
def mB (l:List AV) (o:Nat) (h:o<=l.length):aM l o []=l:=by
 rw[bp _ _ _ (by simpa using h)];simp
def RowsAt.zero {sz:Nat} {cs:List AV} {o:Nat} (h:o<=cs.length):RowsAt sz cs o 0 []:=⟨rfl,by simp,by omega,by simp⟩
def um {sz:Nat} {A C:List AV} {rows:List (List AV)} {o n:Nat} (I:o=A.length) (F:rows.length=n) (D:∀r∈rows,r.length=sz):RowsAt sz (A++(rows.flatten++C)) o n rows:=by
 subst I F;have E:=aA rows D;refine⟨rfl,D,by rw[length_append,length_append,E];omega,?_⟩;rw[drop_left,take_append_of_le_length (by omega),take_of_length_le (by omega)]
def bI.mk0 {e:TypeId} {sz b n:Nat} {rows:List (List AV)} (E:n=rows.length) (F:rows.length<=maxLen) (D:∀r∈rows,r.length=sz):bI e sz rows (.sc (.slice (some ⟨b,0,none⟩) n n)) [(b,.cells e rows.flatten)]:=by
 have:=bI.mk (e:=e) (b:=b) (pad:=[]) E (Nat.le_refl _) F D (by rw[append_nil,aA rows D]);rw[append_nil,←E]at this;exact this
def RowsAt.tail {sz:Nat} {rows:List (List AV)} {pad:List AV} (h:∀r∈rows,r.length=sz) {l:Nat} (D:l<=rows.length):RowsAt sz (rows.flatten++pad) (l*sz) (rows.length-l) (rows.drop l):=by
 have:=RowsAt.cut (pad:=pad) h (l:=l) (k:=rows.length-l) (by omega);rwa [take_of_length_le (by rw[length_drop];omega)]at this
def RowsAt.head {sz:Nat} {rows:List (List AV)} {pad:List AV} (h:∀r∈rows,r.length=sz) {l:Nat} (D:l<=rows.length):RowsAt sz (rows.flatten++pad) 0 l (rows.take l):=by
 have:=RowsAt.cut (pad:=pad) h (l:=0) (k:=l) (by omega);simpa using this
def sU {sz o:Nat} {rows:List (List AV)} {pad:List AV} (h:∀r∈rows,r.length=sz) {l:Nat} (D:l<=rows.length) (E:o=l*sz\/l=rows.length/\o=0):RowsAt sz (rows.flatten++pad) o (rows.length-l) (rows.drop l):=by
 rcases E with rfl|⟨rfl,rfl⟩
 ·exact RowsAt.tail h D
 ·rw[Nat.sub_self,drop_length];exact RowsAt.zero (Nat.zero_le _)
def ny {sz:Nat} {rows:List (List AV)} {pad:List AV} (h:∀r∈rows,r.length=sz) {l:Nat} (E:l<=rows.length):(rows.flatten++pad).take (l*sz)=(rows.take l).flatten:=by
 have D:=aA rows h;rw[take_append_of_le_length (by rw[D];exact Nat.mul_le_mul_right _ E),ip h]
def sn:∀{σ:Store} {b:Nat} {x:AObj},σ.get b=some x->σ.set b x=σ
 |[],b,x,h=>by simp[Store.get]at h
 |(k,y)::σ,b,x,h=>by
  simp only[Store.get]at h;simp only[Store.set];split at h
  ·rename_i D
   injection h with h
   subst h;rw[if_pos D]
  ·rename_i D;rw[if_neg D,sn h]
def kM {sz:Nat} {L:List (List AV)} {pad:List AV} {i:Nat} {r:List AV} (h:∀r∈L,r.length=sz) (D:L[i]? =some r):((L.flatten++pad).drop (i*sz)).take sz=r:=by
 obtain⟨hi,D⟩:=List.getElem?_eq_some_iff.1 D;rw[j5 h hi,D]
def ju {sz:Nat} {L:List (List AV)} {pad:List AV} {i:Nat} {c:List AV} (h:∀r∈L,r.length=sz) (hi:i<L.length) (F:c.length=sz):aM (L.flatten++pad) (i*sz) c=(L.set i c).flatten++pad:=by
 have D:=ep (off:=0) (c:=c) (sz:=sz) (by omega) (pad:=pad) h hi
 have E:aM L[i] 0 c=c:=by
  have:=h L[i] (getElem_mem hi);rw[bp _ _ _ (by omega)];simp;omega
 rw[Nat.add_zero,E]at D;exact D
section
variable {G:Glob} {P:Program} {σ:Store} {env:Env} {K:AV->Store->Prop}
def bf {t e:TypeId} {x:Operand} {lo hi N:Option Operand} {l h m b o n cap sz:Nat} (V T O:Nat) (hu:P.underlying t=some (.slice e)) (hn:(P.info? e).map (·.size)=some sz)
  (hx:(SOpd.of x).eval G env= .sc (.slice (some ⟨b,o,none⟩) n cap)) (F:bndO G env lo 0 l) (E:bndO G env hi n h) (J:bndO G env N cap m) (I:N.isSome=true->hi.isSome=true) (X:l<=h) (Y:h<=m) (Z:m<=cap)
  (ho:(if m=l then o else o+l*sz)=V) (M:h-l=T) (D:m-l=O) (hk:K (.sc (.slice (some ⟨b,V,none⟩) T O)) σ):RAW G P (.slice t x lo hi N) env σ K ⟨⟩:=by
 subst ho M D
 exact qq hu hn hx F E J I X Y Z hk
def iu {N sT elem e:TypeId} {b o O T sz:Nat} {x y:Operand} {cs:List AV} {ys:List (List AV)} (m:Nat) (cs':List AV) (Z:P.underlying N=some (.slice elem)) (I:(P.info? elem).map (·.size)=some sz)
  (J:(SOpd.of x).eval G env= .sc (.slice (some ⟨b,o,none⟩) O T)) (V:σ.get b=some (.cells e cs)) (M:srcO σ sz ((SOpd.of y).eval G env) ys) (Y:min ys.length O=m) (E:m≠0) (D:o+m*sz<=cs.length)
  (F:aM cs o (ys.take m).flatten=cs') (X:K (.i (m:Nat)) (σ.set b (.cells e cs'))):
  RAW G P (.call (.mk (.builtin .copy) #[x,y] #[N,sT])) env σ K ⟨⟩:=by
 subst Y F
 exact mX Z I J V M D (λh=>absurd h E) (λ_=>X)
def mJ {N Z elem e:TypeId} {b o O V sz:Nat} {x y:Operand} {cs:List AV} {ys:List (List AV)} (m:Nat) (cs':List AV) (Y:P.underlying N=some (.slice elem)) (I:(P.info? elem).map (·.size)=some sz)
  (J:(SOpd.of x).eval G env= .sc (.slice (some ⟨b,o,none⟩) O V)) (T:σ.get b=some (.cells e cs)) (M:srcO σ sz ((SOpd.of y).eval G env) ys) (X:min ys.length O=m) (D:o+m*sz<=cs.length)
  (F:aM cs o (ys.take m).flatten=cs') (E:K (.i (m:Nat)) (σ.set b (.cells e cs'))):
  RAW G P (.call (.mk (.builtin .copy) #[x,y] #[N,Z])) env σ K ⟨⟩:=by
 subst X F
 refine mX Y I J T M D (λh=>?_) (λ_=>E)
 rw[h]at E D
 rw[take_zero,flatten_nil,mB _ _ (by omega),sn T]at E
 exact E
def p7 {t e:TypeId} {x:Operand} {lo hi J:Option Operand} {I:Option Addr} {sz:Nat} (hu:P.underlying t=some (.slice e)) (Z:(P.info? e).map (·.size)=some sz)
  (hx:(SOpd.of x).eval G env= .sc (.slice I 0 0)) (E:bndO G env lo 0 0) (D:bndO G env hi 0 0) (F:bndO G env J 0 0) (M:J.isSome=true->hi.isSome=true)
  (Y:K (.sc (.slice I 0 0)) σ):RAW G P (.slice t x lo hi J) env σ K ⟨⟩:=by
 refine dv _ (λρ w a op ho O N=>?_) Y
 have T:=au (G:=G) O N x
 rw[hx]at T
 simp only[Rep]at T
 obtain⟨i,V,X⟩:=Option.map_eq_some_iff.1 Z
 refine⟨_,?_,by simp only[Rep];rfl⟩
 have ev:∀{y:Operand} {k:IntKind} {v:Nat},(SOpd.of y).eval G env= .int k (v:Nat)->a.eval y= .int k (v:Nat):=by
  intro y k v hy;have:=au (G:=G) O N y;rw[hy]at this;simpa only[Rep]using this
 cases lo<;>cases hi<;>cases J<;>simp only[bndO,Option.isSome,Bool.false_eq_true,forall_const,implies_true,reduceCtorEq]at E D F M
 all_goals(
  try obtain⟨k1,E⟩:=E
  try obtain⟨k2,D⟩:=D
  try obtain⟨k3,F⟩:=F
  try have e1:=ev E
  try have e2:=ev D
  try have e3:=ev F
  simp_all[execOp,Instr.sliceAt,Instr.slice,run_underlying hu,Instr.sliceBounds,Instr.sliceBound,asIntOf,sizeOf,typeInfo])
def RowsAt.grow {sz:Nat} {cs:List AV} {n:Nat} {rows ys:List (List AV)} (h:RowsAt sz cs 0 n rows) (J:∀r∈ys,r.length=sz) (M:(n+ys.length)*sz<=cs.length):RowsAt sz (aM cs (0+n*sz) ys.flatten) 0 (n+ys.length) (rows++ys):=by
 have F:=aA ys J;have E:=aA rows h.row;have I:=h.eq;rw[drop_zero]at I;rw[Nat.add_mul]at M;refine⟨by rw[length_append,h.len],λr D=>by rcases mem_append.1 D with D|D<;>first|exact h.row r D|exact J r D,?_,?_⟩
 ·rw[lp (by omega),Nat.add_mul];omega
 ·rw[bp _ _ _ (by omega),Nat.zero_add,I,drop_zero,flatten_append,take_append_of_le_length (by rw[length_append,E,F,h.len,Nat.add_mul];omega),take_of_length_le (by rw[length_append,E,F,h.len,Nat.add_mul];omega)]
def RowsAt.all {sz:Nat} {rows:List (List AV)} {pad:List AV} (h:∀r∈rows,r.length=sz) {n:Nat} (D:n=rows.length):RowsAt sz (rows.flatten++pad) 0 n rows:=by
 subst D;simpa using RowsAt.head (pad:=pad) h (Nat.le_refl _)
def RowsAt.split {sz:Nat} {cs:List AV} {n:Nat} {rows:List (List AV)} (h:RowsAt sz cs 0 n rows):cs=rows.flatten++cs.drop (n*sz):=by
 have:=h.eq;rw[drop_zero]at this;rw[←this,take_append_drop]
def RowsAt.pre {sz:Nat} {cs:List AV} {n:Nat} {rows:List (List AV)} (h:RowsAt sz cs 0 n rows) {l:Nat} (E:l<=n):RowsAt sz cs 0 l (rows.take l):=by
 have D:=RowsAt.head (pad:=cs.drop (n*sz)) h.row (l:=l) (by rw[h.len];exact E);rwa [←h.split]at D
def RowsAt.suf {sz:Nat} {cs:List AV} {n o:Nat} {rows:List (List AV)} (h:RowsAt sz cs 0 n rows) {l:Nat} (E:l<=n) (F:o=l*sz\/l=n/\o=0):RowsAt sz cs o (n-l) (rows.drop l):=by
 have D:=sU (pad:=cs.drop (n*sz)) (o:=o) h.row (l:=l) (by rw[h.len];exact E) (by rw[h.len];exact F);rwa [←h.split,h.len]at D
def oX {t X e e':TypeId} {sz bytes b n cap:Nat} {x y:Operand} {rows:List (List AV)} {cs z:List AV}
  (Z:P.underlying t=some (.slice e)) (Y:P.underlying X=some (.slice e')) (hi:(P.info? e).map (λi=>(i.size,i.bytes))=some (sz,bytes)) (hz:cR P e=some z) (O:z.length=sz) (F:sz≠0) (I:bytes≠0)
  (M:(SOpd.of x).eval G env= .sc (.slice (some ⟨b,0,none⟩) n cap)) (V:σ.get b=some (.cells e cs)) (E:RowsAt sz cs 0 n rows) (T:cap*sz<=cs.length) (hn:n<=cap)
  (N:srcO σ sz ((SOpd.of y).eval G env) []) (D:n*bytes<=140737488355328)
  (J:K (.sc (.slice (some ⟨b,0,none⟩) n cap)) σ):RAW G P (.call (.mk (.builtin .append) #[x,y] #[t,X])) env σ K ⟨⟩:=by
 have hf:=E.fit
 refine fj Z Y hi hz O F I M V E (by omega) N (by simpa using D) (λ_=>?_) (λh=>by simp at h;omega)
 rw[flatten_nil,mB _ _ (by omega),sn V]
 exact J
def ki {t tx e e':TypeId} {sz bytes b n cap:Nat} {x y:Operand} {rows ys:List (List AV)} {cs z:List AV}
  (hu:P.underlying t=some (.slice e)) (hk:P.underlying tx=some (.slice e')) (hi:(P.info? e).map (λi=>(i.size,i.bytes))=some (sz,bytes)) (hz:cR P e=some z) (aa:z.length=sz) (N:sz≠0) (T:bytes≠0)
  (Y:(SOpd.of x).eval G env= .sc (.slice (some ⟨b,0,none⟩) n cap)) (hg:σ.get b=some (.cells e cs)) (E:RowsAt sz cs 0 n rows) (I:cap*sz<=cs.length) (V:cap<=maxLen)
  (Z:srcO σ sz ((SOpd.of y).eval G env) ys) (O:∀r∈ys,r.length=sz) (F:(n+ys.length)*bytes<=140737488355328)
  (M:∀J D cs' σ',RowsAt sz cs' 0 (n+ys.length) (rows++ys)->D*sz<=cs'.length->n+ys.length<=D->D<=maxLen->(J=b/\σ'=σ.set b (.cells e cs')\/J∉σ.keys/\σ'=(J,.cells e cs')::σ)->
   K (.sc (.slice (some ⟨J,0,none⟩) (n+ys.length) D)) σ'):RAW G P (.call (.mk (.builtin .append) #[x,y] #[t,tx])) env σ K ⟨⟩:=by
 have hf:=E.fit
 have ac:=aA ys O
 refine fj hu hk hi hz aa N T Y hg E (by omega) Z F (λhr=>?_) (λ_ J D pad hb h1 h2 h3 h4=>?_)
 ·have hm:(n+ys.length)*sz<=cs.length:=Nat.le_trans (Nat.mul_le_mul_right _ hr) I
  have X:=hm;rw[Nat.add_mul]at X;exact M b cap _ _ (E.grow O hm) (by rw[lp (by omega)];exact I) hr V (.inl ⟨rfl,rfl⟩)
 ·exact M J D _ _ (RowsAt.all h3 (by rw[length_append,E.len])) (by rw[h4];exact Nat.le_refl _) h1 h2 (.inr ⟨hb,rfl⟩)
def un {k:FuncId} {args:List AV} {T:AV} (h:aj G P k args [] (λr σ=>(r=T/\σ=[])\/∃b e n cap cs sz rows x,r= .tup [.sc (.slice (some ⟨b,0,none⟩) n cap),x]/\σ=[(b,.cells e cs)]/\RowsAt sz cs 0 n rows/\n<=cap/\cap<=maxLen/\T= .tup [.lst sz rows,x]/\x.flat=true)):Pure G P k args T:=
 ⟨h.1,λρ w vs hS hA=>(h.2 ρ w vs hS hA).mono λen w' ⟨v,r,σ',V,hr,E,F,D⟩=>by
  rcases hr with⟨rfl,rfl⟩|⟨b,e,n,cap,cs,sz,rows,x,rfl,rfl,I,h1,h2,rfl,hx⟩
  ·exact⟨v,r,[],V,⟨rfl,rfl⟩,E,F,D⟩
  ·have X:=SubN.nil [(b,AObj.cells e cs)]
   refine⟨v,_,[],V,⟨rfl,rfl⟩,E.subN X,F.trans (ra X.1 _),?_⟩
   simp only[Rep,RepL]at D
   obtain⟨O,rfl,u1,aa,Y,M,u2,ac,Z,N,e3⟩:=D
   subst e3 Z
   have hc:cs=rows.flatten++cs.drop (n*sz):=by
    have:=I.eq
    rw[drop_zero]at this
    rw[←this,take_append_drop]
   have J:Sat G ((b,.cells e (rows.flatten++cs.drop (n*sz)))::[]++ρ) w':=by rw[←hc];exact E
   subst M
   have hf:=Rep.freeze (c:=n) (cap:=cap) J I.row I.len.symm (by rw[I.len];exact h1) h2
   simp only[Rep,RepL]
   exact⟨O,rfl,_,_,Y,by simpa[Rep]using hf,u2,[],rfl,tt hx N,rfl⟩⟩
def XOVER {k tS tR e E F o2 n2 c2 sz k1:Nat} {cs:List AV} {J Z:TypeId} {rows:List (List AV)}
  (I:∀(w:World) (vs:Array Value),(callFunc k vs).run P w=((Extern.SlicesOverlaps.overlaps #[tS,tS] #[tR] vs).run P w).andThen λv w'=>.ok (.value v) w')
  (ht:P.underlying tS=some (.slice e)) (hz:(P.info? e).map (·.size)=some sz) (V:E≠F) (h1:σ.get E=some (.tok J k1)) (h2:σ.get F=some (.cells Z cs)) (hc:cs≠[]):
  XSpec G P (.func (.func k) #[] #[]) [.own (some E) J sz rows,.sc (.slice (some ⟨F,o2,none⟩) n2 c2)] σ (λr σ'=>r= .bool false/\σ'=σ):=by
 refine⟨k,#[],#[],rfl,λρ w vs M hA=>?_⟩
 simp only[map_nil,nil_append,append_nil,Array.toList]at hA
 obtain⟨u,v,rfl,hu,hv⟩:=j8 hA
 simp only[Rep]at hu hv
 obtain⟨cap,rfl,_,_,aa,_⟩:=hu
 subst hv
 obtain⟨v1,D,_,_⟩:=M.obj E _ (mem_append.2 (.inl (rb h1)))
 obtain⟨v2,N,_,X⟩:=M.obj F _ (mem_append.2 (.inl (rb h2)))
 obtain⟨i,hi,O⟩:=Option.map_eq_some_iff.1 hz
 have T:=X.length
 have Y:v2.size≠0:=by
  intro h0
  have:cs.length=0:=by rw[←T];simpa using h0
  exact hc (eq_nil_of_length_eq_zero this)
 have hr:=Lib.run_overlaps_apart (P:=P) w tS tR e ht sz (λw=>by simp[sizeOf,typeInfo,hi,O]) ⟨E,0,none⟩ ⟨F,o2,none⟩ rows.length cap n2 c2 V J Z v1.size v2.size
  (by simp[World.shape?,D]) (by simp[World.shape?,N]) Y (by simp[World.frozen?,D]) (by simp[World.frozen?,D])
 refine⟨.bool false,.bool false,σ,w,?_,⟨rfl,rfl⟩,M,Ev.refl σ w,by simp only[Rep]⟩
 rw[I,hr]
 rfl
end
def fnV (k:Nat):AV:=.sc (.func (.func k) #[] #[])
section
variable {G:Glob} {P:Program}
def rt {t e:TypeId} {f1 f2 f3 f4:Nat} {env:Env} {σ:Store} {K:AV->Store->Prop} (N:P.underlying t=some (.array 4 e)) (F:(P.info? t).bind (·.zero)=some (.agg #[.nilFunc,.nilFunc,.nilFunc,.nilFunc]))
  (M:br P e=some 1) (I:K (.agg [fnV f1,fnV f2,fnV f3,fnV f4]) σ):RAW G P (.build t #[(0,.func f1),(1,.func f2),(2,.func f3),(3,.func f4)]) env σ K ⟨⟩:=by
 refine dv _ (λρ w O op J V T=>?_) I
 refine⟨.agg #[.func (.func f1) #[] #[],.func (.func f2) #[] #[],.func (.func f3) #[] #[],.func (.func f4) #[] #[]],?_,?_⟩
 ·obtain⟨i,hi,D⟩:∃i,P.info? t=some i/\i.zero=some (.agg #[.nilFunc,.nilFunc,.nilFunc,.nilFunc]):=by
   cases h:P.info? t with
   |none=>simp[h]at F
   |some i=>exact⟨i,rfl,by simpa[h]using F⟩
  have E:(zeroValue t).run P w= .ok (.agg #[.nilFunc,.nilFunc,.nilFunc,.nilFunc]) w:=by simp[zeroValue,typeInfo,hi,D]
  simp[execOp,J,Instr.build,E,run_underlying N,bu M,Act.eval];rfl
 ·simp only[fnV,Rep,RepL]
  refine⟨_,rfl,by simp[Value.oneCell'],_,_,rfl,rfl,_,_,rfl,rfl,_,_,rfl,rfl,_,_,rfl,rfl,rfl⟩
def bD {t e:TypeId} {L:Nat} {i j:Nat} {n:Nat} {kc:IntKind} {cs:List AV} {env:Env} {σ:Store} {K:AV->Store->Prop} (hi:env.get i= .agg cs) (hj:env.get j= .int kc (n:Int)) (hu:P.underlying t=some (.array L e)) (E:(P.underlying e).map aggD=some false)
  (hs:br P e=some 1) (hl:cs.length=L) (hn:n<L) (hk:K (cs.getD n .any) σ):RAW G P (.index t (.tmp i) (.tmp j)) env σ K ⟨⟩:=by
 obtain⟨d,E,V⟩:∃d,P.underlying e=some d/\aggD d=false:=by
  cases h:P.underlying e with
  |none=>simp[h]at E
  |some d=>exact⟨d,rfl,by simpa[h]using E⟩
 refine dv _ (λρ w O op ho hS T=>?_) hk
 have I:=T i
 have J:=T j
 rw[hi]at I
 rw[hj]at J
 simp only[Rep]at I J
 obtain⟨vs,F,aa,Z⟩:=I
 have D:=Z.length
 have N:n+1<=vs.size:=by simp at D;omega
 have F:O.eval (.tmp i)= .agg vs:=F
 have e2:O.eval (.tmp j)= .int kc n:=J
 refine⟨(vs.toList.drop n).headD undef,?_,?_⟩
 ·have Y:=gS E hs vs n (by rw[V];rfl) N w
  rw[V]at Y
  have hb:(0:Int)<=n/\(n:Int)<L:=by omega
  have M:=bu hs w;simp[execOp,ho,Instr.index,F,e2,asIntOf,run_underlying hu,hb,M,Y];intro h;omega
 ·have X:n<cs.length:=by omega
  have g:=Z.get n X (by simp at D ⊢;omega)
  have e3:(vs.toList.drop n).headD undef=vs.toList[n]'(by simp;omega):=by
   rw[drop_eq_getElem_cons (by simp;omega)];rfl
  rw[e3,getD_eq_getElem?_getD,getElem?_eq_getElem X];exact g
end
end Go.Av
namespace Go.Av
open Go Go.RowKit Go.Proofs List
section
variable (G:Glob)
def f278 (rows:List (List AV)) (O:∀r∈rows,r.length=8) (X:rows.length<1000000):aj G Tryz.prog 278 [.lst 8 rows] [] (λr σ=>bI 27 8 rows r σ):=by
 refine aj.w c278 ?_;unfold s278 r278;simp only[EV1,EV2,EV3,EV4,EV5,Option.map_some,decide_true,decide_false,seval,eq_self];intro T F;refine ae (λh=>?_) (λh=>?_)
 ·simp only[EV1,EV2,EV3,EV4,EV5,Option.map_some,decide_true,decide_false,seval,eq_self]
  have E:rows=[]:=by
   rcases Classical.em (rows=[])with D|D
   ·exact D
   ·rw[F D]at h;cases h
  subst E;exact RET.le (y:=.sc (.slice none 0 0)) (Or.inl (Or.inr rfl)) (SubN.refl _) (eG (.inl rfl))
 ·simp only[EV1,EV2,EV3,EV4,EV5,Option.map_some,decide_true,decide_false,seval,eq_self];refine gJ (e:=27) (n:=8) (by kernel_rfl) (by kernel_rfl) (λv I=>?_);simp only[EV1,EV2,EV3,EV4,EV5,Option.map_some,decide_true,decide_false,seval,↓reduceIte,eq_self];refine cj (e:=27) (e':=27) (sz:=8) (bytes:=120) (rows:=[]) (ys:=rows) (g:=none) (xv:=.sc v) (by kernel_rfl) (by kernel_rfl) (by kernel_rfl) (by kernel_rfl) (by decide) (by decide) rfl (.inl ⟨rfl,rfl,.inr ⟨v,rfl,I⟩⟩) ?_ ?_ ?_ ?_
  ·exact⟨rfl,rfl⟩
  ·simp;omega
  ·intro _ E;subst E;simp only[EV1,EV2,EV3,EV4,EV5,Option.map_some,decide_true,decide_false,seval,eq_self];exact rv (SubN.refl _) (eG I)
  ·intro b cap pad V D J M N;simp only[EV1,EV2,EV3,EV4,EV5,Option.map_some,decide_true,decide_false,seval,eq_self];simp only[nil_append]at*;exact rv (SubN.refl _) (bI.mk rfl D J M N)
def f316 (rows:List (List AV)) (O:∀r∈rows,r.length=1) (X:rows.length<1000000):aj G Tryz.prog 316 [.lst 1 rows] [] (λr σ=>bI 3 1 rows r σ):=by
 refine aj.w c316 ?_;unfold s316 r316;simp only[EV1,EV2,EV3,EV4,EV5,Option.map_some,decide_true,decide_false,seval,eq_self];intro T F;refine ae (λh=>?_) (λh=>?_)
 ·simp only[EV1,EV2,EV3,EV4,EV5,Option.map_some,decide_true,decide_false,seval,eq_self]
  have E:rows=[]:=by
   rcases Classical.em (rows=[])with D|D
   ·exact D
   ·rw[F D]at h;cases h
  subst E;exact RET.le (y:=.sc (.slice none 0 0)) (Or.inl (Or.inr rfl)) (SubN.refl _) (eG (.inl rfl))
 ·simp only[EV1,EV2,EV3,EV4,EV5,Option.map_some,decide_true,decide_false,seval,eq_self];refine gJ (e:=3) (n:=1) (by kernel_rfl) (by kernel_rfl) (λv I=>?_);simp only[EV1,EV2,EV3,EV4,EV5,Option.map_some,decide_true,decide_false,seval,↓reduceIte,eq_self];refine cj (e:=3) (e':=3) (sz:=1) (bytes:=8) (rows:=[]) (ys:=rows) (g:=none) (xv:=.sc v) (by kernel_rfl) (by kernel_rfl) (by kernel_rfl) (by kernel_rfl) (by decide) (by decide) rfl (.inl ⟨rfl,rfl,.inr ⟨v,rfl,I⟩⟩) ?_ ?_ ?_ ?_
  ·exact⟨rfl,rfl⟩
  ·simp;omega
  ·intro _ E;subst E;simp only[EV1,EV2,EV3,EV4,EV5,Option.map_some,decide_true,decide_false,seval,eq_self];exact rv (SubN.refl _) (eG I)
  ·intro b cap pad V D J M N;simp only[EV1,EV2,EV3,EV4,EV5,Option.map_some,decide_true,decide_false,seval,eq_self];simp only[nil_append]at*;exact rv (SubN.refl _) (bI.mk rfl D J M N)
set_option maxHeartbeats 1000000 in
def f277 (rows:List (List AV)) (v:AV) (κ:Store) (ho:bI 27 8 rows v κ) (j:Nat) (hj:j<rows.length) (hl:rows.length<1000000):
  aj G Tryz.prog 277 [v,.i j,.i ((j+1:Nat):Int)] κ (λr σ'=>bI 27 8 (rows.take j++rows.drop (j+1)) r σ'):=by
 obtain⟨ad,cap,rfl,h⟩:=ho
 rcases h with⟨rfl,rfl,rfl⟩|⟨b,pad,rfl,rfl,h1,h2,F,Y⟩
 ·simp at hj
 refine aj.w c277 ?_
 unfold s277 r277
 have e0:decide ((j:Int)=((j+1:Nat):Int))=false:=decide_eq_false (by omega)
 obtain⟨O,V⟩:∃O,(if cap=j+1 then 0 else 0+(j+1)*8)=O:=⟨_,rfl⟩
 have Z:O=(j+1)*8\/j+1=rows.length/\O=0:=by
  subst V;split
  ·exact .inr ⟨by omega,rfl⟩
  ·exact .inl (by omega)
 have ah:=aA rows F
 obtain⟨D,hD⟩:∃D,(rows.flatten++pad).drop (0+j*8+(rows.drop (j+1)).flatten.length)=D:=⟨_,rfl⟩
 have J:(rows.drop (j+1)).flatten.length=(rows.length-(j+1))*8:=by rw[aA _ (λr E=>F r (mem_of_mem_drop E)),length_drop]
 have ac:(rows.take j).flatten.length=j*8:=by rw[aA _ (λr E=>F r (mem_of_mem_take E)),length_take,Nat.min_eq_left (by omega)]
 have I:D.length=cap*8-(rows.length-1)*8:=by rw[←hD,length_drop,Y,J];omega
 have aa:aM (rows.flatten++pad) (0+j*8) (rows.drop (j+1)).flatten=(rows.take j++rows.drop (j+1)).flatten++(D.take 8++D.drop 8):=by
  rw[bp _ _ _ (by rw[J,Y];omega),hD,Nat.zero_add,ny F (by omega),flatten_append,take_append_drop]
 have X:aM ((rows.take j++rows.drop (j+1)).flatten++(D.take 8++D.drop 8)) ((rows.length-1)*8) [[AV.int .i64 0,.i 0,.i 0,.i 0,.str [],.nil,.nil,.nil]].flatten=(rows.take j++rows.drop (j+1)).flatten++(zU++D.drop 8):=by
  refine fe ?_ ?_
  ·rw[flatten_append,length_append,ac,J];omega
  ·rw[length_take,I];simp[zU];omega
 have M:∀r∈rows.take j++rows.drop (j+1),r.length=8:=λr E=>by
  rcases mem_append.1 E with E|E
  ·exact F r (mem_of_mem_take E)
  ·exact F r (mem_of_mem_drop E)
 have N:(rows.take j++rows.drop (j+1)).length=rows.length-1:=by rw[length_append,length_take,length_drop];omega
 have T:j+(rows.drop (j+1)).length=rows.length-1:=by rw[length_drop];omega
 generalize al:rows.take j++rows.drop (j+1)=rows' at*
 (repeat' (first|simp only[EV,seval,e0,aa,T,X]|(with_reducible first|refine af ?_ ?_|refine ag ?_)|(refine bf (e:=27) (sz:=8) (l:=j) (h:=j+1) (m:=rows.length) _ _ _ (by kernel_rfl) (by kernel_rfl) rfl ⟨_,rfl⟩ ⟨_,rfl⟩ ⟨_,rfl⟩ (λ_=>rfl) (by omega) (by omega) h1 rfl rfl rfl ?_)|(refine bf (e:=27) (sz:=8) (l:=0) (h:=j) (m:=cap) 0 j cap (by kernel_rfl) (by kernel_rfl) rfl rfl ⟨_,rfl⟩ rfl (λh=>by cases h) (by omega) (by omega) (Nat.le_refl _) (by split<;>rfl) rfl rfl ?_)|(refine bf (e:=27) (sz:=8) (l:=j+1) (h:=rows.length) (m:=cap) O (rows.length-(j+1)) (cap-(j+1)) (by kernel_rfl) (by kernel_rfl) rfl ⟨_,rfl⟩ rfl rfl (λh=>by cases h) (by omega) (by omega) (Nat.le_refl _) V rfl rfl ?_)|(refine fj (e:=27) (e':=27) (sz:=8) (bytes:=120) (b:=b) (o:=0) (n:=j) (cap:=cap) (rows:=rows.take j) (ys:=rows.drop (j+1)) (cs:=rows.flatten++pad) (z:=zU) (by kernel_rfl) (by kernel_rfl) (by kernel_rfl) (by kernel_rfl) rfl (by decide) (by decide) rfl (if_pos rfl) (RowsAt.head F (by omega)) (by rw[Y];omega) (.inr ⟨b,O,_,_,27,_,rfl,if_pos rfl,sU F hj Z⟩) (by rw[T];omega) (λ_=>?_) (λhc=>by omega))|(refine bf (e:=27) (sz:=8) (l:=rows.length-1) (h:=rows.length) (m:=cap) ((rows.length-1)*8) 1 (cap-(rows.length-1)) (by kernel_rfl) (by kernel_rfl) rfl ⟨_,rfl⟩ ⟨_,rfl⟩ rfl (λh=>by cases h) (by omega) (by omega) (Nat.le_refl _) (by rw[if_neg (by omega)];omega) (by omega) rfl ?_)|(refine qA (elem:=27) (sz:=8) (z:=zU) (by kernel_rfl) (by kernel_rfl) rfl (by decide) rfl (if_pos rfl) (by rw[length_append,length_append,length_take,length_drop,I,aA _ M,N];omega) (λh=>by cases h) (λ_=>?_))))
 all_goals
  refine rv (SubN.refl _) (bI.mk N.symm (by omega) h2 M ?_)
  rw[length_append,aA _ M,N]
  simp only[length_cons,length_drop,I]
  omega
def x233 {σ:Store} {D E T O c2 k1:Nat} {cs:List AV} {I:TypeId} {rows:List (List AV)} (F:D≠E) (J:σ.get D=some (.tok 27 k1)) (M:σ.get E=some (.cells I cs)) (N:cs≠[]):
  XSpec G Tryz.prog (.func (.func 311) #[] #[]) [.own (some D) 27 8 rows,.sc (.slice (some ⟨E,T,none⟩) O c2)] σ (λr σ'=>r= .bool false/\σ'=σ):=
 XOVER (tS:=25) (tR:=4) (e:=27) (sz:=8) (λw vs=>run_callFunc_extern (e:=Extern.SlicesOverlaps.overlaps #[25,25] #[4]) Tryz.func311 (by kernel_rfl) (by kernel_rfl) (by kernel_rfl) (by kernel_rfl) vs w) (by kernel_rfl) (by kernel_rfl) F J M N
def eO (rows:List (List AV)) (j:Nat) (x:List AV):List (List AV):=rows.take j++x::rows.drop j
def putAt_len (rows:List (List AV)) (j:Nat) (x:List AV):(eO rows j x).length=rows.length+1:=by
 unfold eO;rw[length_append,length_cons,length_take,length_drop];omega
def putAt_row {sz:Nat} {rows:List (List AV)} {j:Nat} {x:List AV} (h:∀r∈rows,r.length=sz) (E:x.length=sz):∀r∈eO rows j x,r.length=sz:=by
 intro r D
 rcases mem_append.1 D with D|D
 ·exact h r (mem_of_mem_take D)
 ·rcases mem_cons.1 D with rfl|D
  ·exact E
  ·exact h r (mem_of_mem_drop D)
set_option maxHeartbeats 2000000 in
def f217 (rows:List (List AV)) (v:AV) (κ:Store) (ho:bI 27 8 rows v κ) (j:Nat) (hj:j<=rows.length) (hl:rows.length<1000000) (O:Nat) (x:List AV) (hx:x.length=8):
  aj G Tryz.prog 217 [v,.i j,.own (some O) 27 8 [x]] (κ++[(O,.tok 27 8)]) (λr σ'=>∃bw,bI 27 8 (eO rows j x) r bw/\σ'=bw++[(O,.tok 27 8)]):=by
 by_cases bk:j=rows.length
 ·subst bk
  have hp:eO rows rows.length x=rows++[x]:=by unfold eO;rw[take_length,drop_length]
  rw[hp];refine aj.wn c217 λT=>?_;unfold s217 r217;obtain⟨J,cap,rfl,h⟩:=ho
  rcases h with⟨rfl,rfl,rfl⟩|⟨b,pad,rfl,rfl,h1,h2,M,h4⟩
  ·have cw:lD (.slice J 0 0):=by
    cases J with
    |none=>exact .inl rfl
    |some a=>exact .inr ⟨a,rfl⟩
   (repeat' (first|simp only[EV,seval]|(refine p7 (e:=27) (sz:=8) (by kernel_rfl) (by kernel_rfl) rfl ⟨_,rfl⟩ rfl rfl (λh=>by cases h) ?_)|(refine cj (e:=27) (e':=27) (sz:=8) (bytes:=120) (rows:=[]) (ys:=[x]) (g:=none) (xv:=.sc (.slice J 0 0)) (by kernel_rfl) (by kernel_rfl) (by kernel_rfl) (by kernel_rfl) (by decide) (by decide) rfl (.inl ⟨rfl,rfl,.inr ⟨_,rfl,cw⟩⟩) ⟨rfl,rfl⟩ (by simp) (λ_ h=>by cases h) (λb' I pad hb g1 g2 g3 g4=>?_))));exact rv (SubN.refl _) ⟨_,bI.mk rfl g1 g2 g3 g4,rfl⟩
  ·have aa:¬O=b:=by
    simp[Store.keys]at T;exact λe=>T e.symm
   have d0:Store.erase [(b,AObj.cells 27 (rows.flatten++pad)),(O,.tok 27 8)] (some b)=[(O,.tok 27 8)]:=by simp[Store.erase,aa]
   (repeat' (first|simp only[EV,seval,d0]|(refine bf (e:=27) (sz:=8) (l:=rows.length) (h:=rows.length) (m:=cap) _ _ _ (by kernel_rfl) (by kernel_rfl) rfl ⟨_,rfl⟩ rfl rfl (λh=>by cases h) (by omega) h1 (Nat.le_refl _) rfl rfl rfl ?_)|(refine cj (e:=27) (e':=27) (sz:=8) (bytes:=120) (rows:=rows) (ys:=[x]) (g:=some b) (xv:=.sc (.slice (some ⟨b,0,none⟩) rows.length cap)) (by kernel_rfl) (by kernel_rfl) (by kernel_rfl) (by kernel_rfl) (by decide) (by decide) rfl (.inr ⟨b,cap,pad,rfl,rfl,if_pos rfl,M,h4,h1,h2⟩) ⟨rfl,rfl⟩ (by simp;omega) (λ_ h=>by cases h) (λb' I E hb g1 g2 g3 g4=>?_))));exact rv (SubN.refl _) ⟨_,bI.mk (by simp) g1 g2 g3 g4,rfl⟩
 ·obtain⟨J,cap,rfl,h⟩:=ho
  rcases h with⟨rfl,rfl,rfl⟩|⟨b,pad,rfl,rfl,h1,h2,M,h4⟩
  ·simp at hj;exact absurd hj bk
  refine aj.wn c217 λT=>?_;unfold s217 r217
  have aa:¬O=b:=by
   simp[Store.keys]at T;exact λe=>T e.symm
  have bb:¬b=O:=λe=>aa e.symm;have e0:decide ((j:Int)=(rows.length:Int))=false:=decide_eq_false (by omega)
  have w1:IntKind.i64.wrap ((rows.length:Int)+1)=((rows.length+1:Nat):Int):=by rw[av (by omega) (by omega)];omega
  have w2:IntKind.i64.wrap (((rows.length+1:Nat):Int)-(j:Int))=((rows.length+1-j:Nat):Int):=by rw[av (by omega) (by omega)];omega
  have w3:IntKind.i64.wrap ((j:Int)+1)=((j+1:Nat):Int):=by rw[av (by omega) (by omega)];omega
  have bm:j<rows.length:=by omega
  have F:(rows.take j).flatten.length=j*8:=by rw[aA _ (λr Z=>M r (mem_of_mem_take Z)),length_take,Nat.min_eq_left (by omega)]
  have N:(rows.drop j).flatten.length=(rows.length-j)*8:=by rw[aA _ (λr Z=>M r (mem_of_mem_drop Z)),length_drop]
  have bn:=putAt_len rows j x;have bo:=putAt_row (j:=j) M hx
  have ac:∀D,(eO rows j x).flatten++D=(rows.take j).flatten++(x++((rows.drop j).flatten++D)):=λD=>by unfold eO;simp[append_assoc]
  by_cases hc:rows.length+1<=cap
  ·have e1:decide ((cap:Int)<((rows.length+1:Nat):Int))=false:=decide_eq_false (by omega)
   have e2:8<=pad.length:=by
    have:=aA rows M;rw[length_append]at h4;omega
   have bs:rows[j].length=8:=M _ (getElem_mem bm)
   have cm:rows.flatten++pad=(rows.take j).flatten++((rows.drop j++[pad.take 8]).flatten++pad.drop 8):=by
    have h5:rows.flatten=(rows.take j).flatten++(rows.drop j).flatten:=by rw[←flatten_append,take_append_drop]
    rw[h5];simp[append_assoc]
   have ch:RowsAt 8 (rows.flatten++pad) (j*8) (rows.length+1-j) (rows.drop j++[pad.take 8]):=by
    rw[cm];refine um F.symm (by simp;omega) (λr Z=>?_)
    rcases mem_append.1 Z with Z|Z
    ·exact M r (mem_of_mem_drop Z)
    ·simp only[mem_singleton]at Z;subst Z;rw[length_take];omega
   have dl:(rows.drop j++[pad.take 8]).take (rows.length-j)=rows.drop j:=by
    rw[take_append_of_le_length (by rw[length_drop];omega),take_of_length_le (by rw[length_drop];omega)]
   have V:aM (rows.flatten++pad) ((j+1)*8) ((rows.drop j++[pad.take 8]).take (rows.length-j)).flatten=(rows.take j).flatten++(rows[j]++((rows.drop j).flatten++pad.drop 8)):=by
    have be:=aA rows M;have cp:rows.flatten.drop ((j+1)*8+(rows.drop j).flatten.length)=[]:=drop_eq_nil_of_le (by rw[N,be];omega);rw[dl,bp _ _ _ (by rw[N,h4];omega),ny M (by omega),drop_append,cp,nil_append,N,be,show(j+1)*8+(rows.length-j)*8-rows.length*8=8 by omega,take_succ_eq_append_getElem bm,flatten_append];simp[append_assoc]
   have X:aM ((rows.take j).flatten++(rows[j]++((rows.drop j).flatten++pad.drop 8))) (j*8) ([x].take 1).flatten=(eO rows j x).flatten++pad.drop 8:=by
    rw[ac];simpa using fe (A:=(rows.take j).flatten) (B:=rows[j]) (B':=x) (C:=(rows.drop j).flatten++pad.drop 8) F.symm (by rw[hx,bs])
   have bd:rows.flatten++pad≠[]:=λh=>by
    have:=congrArg List.length h;rw[h4]at this;simp at this;omega
   have al:min (rows.drop j++[pad.take 8]).length (rows.length-j)=rows.length-j:=by rw[length_append,length_drop];exact Nat.min_eq_right (Nat.le_add_right _ _)
   have an:min [x].length (rows.length+1-j)=1:=Nat.min_eq_left (by simp;omega)
   have d3:j*8+1*8<=((rows.take j).flatten++(rows[j]++((rows.drop j).flatten++pad.drop 8))).length:=by rw[length_append,length_append,F,bs];omega
   have d1:Store.get [(b,AObj.cells 27 (rows.flatten++pad)),(O,.tok 27 8)] O=some (.tok 27 8):=by simp[Store.get,bb]
   have d2:Store.get [(b,AObj.cells 27 (rows.flatten++pad)),(O,.tok 27 8)] b=some (.cells 27 (rows.flatten++pad)):=by simp[Store.get]
   generalize e4:rows[j]=rj at*;(repeat' (first|simp only[EV,seval,e0,w1,e1,w3]|(with_reducible first|refine af ?_ ?_|refine ag ?_)|(refine bf (e:=27) (sz:=8) (l:=j) (h:=rows.length) (m:=cap) _ _ _ (by kernel_rfl) (by kernel_rfl) rfl ⟨_,rfl⟩ rfl rfl (λh=>by cases h) (by omega) h1 (Nat.le_refl _) rfl rfl rfl ?_)|(refine pR (e:=27) rfl (by kernel_rfl) ?_)|(refine bf (e:=27) (sz:=8) (l:=0) (h:=rows.length+1) (m:=cap) 0 (rows.length+1) cap (by kernel_rfl) (by kernel_rfl) rfl rfl ⟨_,rfl⟩ rfl (λh=>by cases h) (by omega) hc (Nat.le_refl _) (by split<;>rfl) rfl rfl ?_)|(refine bf (e:=27) (sz:=8) (l:=j+1) (h:=rows.length+1) (m:=cap) ((j+1)*8) (rows.length-j) (cap-(j+1)) (by kernel_rfl) (by kernel_rfl) rfl ⟨_,rfl⟩ rfl rfl (λh=>by cases h) (by omega) hc (Nat.le_refl _) (by rw[if_neg (by omega)];omega) (by omega) rfl ?_)|(refine CALL_x _ [] (x233 G aa d1 d2 bd) (hH _) (by rw[append_nil];exact SubN.refl _) (λr' e3 h'=>?_))|(obtain⟨rfl,rfl⟩:=h')|(refine bf (e:=27) (sz:=8) (l:=j) (h:=rows.length+1) (m:=cap) (j*8) (rows.length+1-j) (cap-j) (by kernel_rfl) (by kernel_rfl) rfl ⟨_,rfl⟩ rfl rfl (λh=>by cases h) (by omega) hc (Nat.le_refl _) (by rw[if_neg (by omega)];omega) (by omega) rfl ?_)|(refine iu (elem:=27) (sz:=8) (b:=b) (ys:=rows.drop j++[pad.take 8]) (rows.length-j) _ (by kernel_rfl) (by kernel_rfl) rfl (if_pos rfl) (.inr ⟨b,j*8,_,_,27,_,rfl,if_pos rfl,ch⟩) al (by omega) (by rw[h4];omega) V ?_)|(refine iu (elem:=27) (sz:=8) (b:=b) (ys:=[x]) 1 _ (by kernel_rfl) (by kernel_rfl) rfl (if_pos rfl) (.inl ⟨rfl,rfl⟩) an (by omega) d3 X ?_)))
   all_goals
    refine rv (SubN.refl _) ⟨_,bI.mk bn.symm (by omega) h2 bo ?_,rfl⟩
    rw[ac,length_append,length_append,length_append,F,N,hx,length_drop]
    rw[length_append,aA rows M]at h4
    omega
  ·have e1:decide ((cap:Int)<((rows.length+1:Nat):Int))=true:=decide_eq_true (by omega)
   have bh:j+(rows.length+1-j)=rows.length+1:=by omega
   have dc:rows.length+1-j=(rows.length-j)+1:=by omega
   have al:min [x].length (rows.length+1-j)=1:=Nat.min_eq_left (by simp;omega)
   have an:min (rows.drop j).length (rows.length-j)=rows.length-j:=by rw[length_drop];exact Nat.min_self _
   obtain⟨Y,ds,aw⟩:∃Y,cR Tryz.prog 27=some Y/\Y.length=8:=⟨zU,by kernel_rfl,rfl⟩
   have ad:∀k,(List.replicate k Y).flatten.length=k*8:=λk=>by rw[ct,aw]
   have V:∀E:List AV,aM ((rows.take j).flatten++((List.replicate (rows.length+1-j) Y).flatten++E)) (j*8) ([x].take 1).flatten=(rows.take j).flatten++(x++((List.replicate (rows.length-j) Y).flatten++E)):=λE=>by
    rw[dc,replicate_succ,flatten_cons,append_assoc];simpa using fe (A:=(rows.take j).flatten) (B:=Y) (B':=x) (C:=(List.replicate (rows.length-j) Y).flatten++E) F.symm (by rw[hx,aw])
   have dd:(rows.drop j).take (rows.length-j)=rows.drop j:=take_of_length_le (by rw[length_drop];omega)
   have X:∀E:List AV,aM ((rows.take j).flatten++(x++((List.replicate (rows.length-j) Y).flatten++E))) ((j+1)*8) ((rows.drop j).take (rows.length-j)).flatten=(eO rows j x).flatten++E:=λE=>by
    rw[dd,ac];simpa[append_assoc]using fe (o:=(j+1)*8) (A:=(rows.take j).flatten++x) (B:=(List.replicate (rows.length-j) Y).flatten) (B':=(rows.drop j).flatten) (C:=E) (by rw[length_append,F,hx];omega) (by rw[N,ad])
   (repeat' (first|simp only[EV,seval,e0,w1,e1,w2,w3,bh]|(with_reducible first|refine af ?_ ?_|refine ag ?_)|(refine bf (e:=27) (sz:=8) (l:=j) (h:=rows.length) (m:=cap) (j*8) (rows.length-j) (cap-j) (by kernel_rfl) (by kernel_rfl) rfl ⟨_,rfl⟩ rfl rfl (λh=>by cases h) (by omega) (by omega) (Nat.le_refl _) (by rw[if_neg (by omega)];omega) rfl rfl ?_)|(refine pR (e:=27) rfl (by kernel_rfl) ?_)|(refine bf (e:=27) (sz:=8) (l:=0) (h:=j) (m:=cap) 0 j cap (by kernel_rfl) (by kernel_rfl) rfl rfl ⟨_,rfl⟩ rfl (λh=>by cases h) (by omega) (by omega) (Nat.le_refl _) (by split<;>rfl) rfl rfl ?_)|(refine kA (e:=27) (sz:=8) (bytes:=120) (rows:=rows.take j) (k:=rows.length+1-j) (z:=Y) (kn:=.i64) (by kernel_rfl) (by kernel_rfl) (by kernel_rfl) ds aw (by decide) (by decide) rfl (if_pos rfl) (RowsAt.head M (by omega)) rfl (by omega) (by omega) (by rw[bh];omega) (λb' I E ah g1 g2 g3=>?_))|(simp only[Store.keys,map_cons,map_nil,mem_cons,not_mem_nil,or_false,not_or]at ah)|(refine bf (e:=27) (sz:=8) (l:=j) (h:=rows.length+1) (m:=I) (j*8) (rows.length+1-j) (I-j) (by kernel_rfl) (by kernel_rfl) rfl ⟨_,rfl⟩ rfl rfl (λh=>by cases h) (by omega) (by omega) (Nat.le_refl _) (by rw[if_neg (by omega)];omega) rfl rfl ?_)|(refine iu (elem:=27) (sz:=8) (b:=b') (ys:=[x]) 1 _ (by kernel_rfl) (by kernel_rfl) rfl (if_pos rfl) (.inl ⟨rfl,rfl⟩) al (by omega) (by rw[length_append,length_append,F,ad];omega) (V E) ?_)|(refine bf (e:=27) (sz:=8) (l:=j+1) (h:=rows.length+1) (m:=I) ((j+1)*8) (rows.length-j) (I-(j+1)) (by kernel_rfl) (by kernel_rfl) rfl ⟨_,rfl⟩ rfl rfl (λh=>by cases h) (by omega) (by omega) (Nat.le_refl _) (by rw[if_neg (by omega)];omega) (by omega) rfl ?_)|(refine iu (elem:=27) (sz:=8) (b:=b') (ys:=rows.drop j) (rows.length-j) _ (by kernel_rfl) (by kernel_rfl) rfl (if_pos rfl) (.inr ⟨b,j*8,_,_,27,_,rfl,(if_neg ah.1).trans (if_pos rfl),RowsAt.tail M (by omega)⟩) an (by omega) (by rw[length_append,length_append,length_append,F,hx,ad];omega) (X E) ?_)))
   all_goals
    refine rv (σ':=[(b',AObj.cells 27 ((eO rows j x).flatten++E))]++[(O,.tok 27 8)]) ⟨λq hq=>?_,λhn=>?_⟩ ⟨_,bI.mk bn.symm (by omega) g2 bo ?_,rfl⟩
    ·simp only[cons_append,nil_append,mem_cons,not_mem_nil,or_false]at hq ⊢
     rcases hq with hq|hq
     ·exact .inl hq
     ·exact .inr (.inr hq)
    ·simp[Store.keys]
     exact ah.2
    ·rw[ac,length_append,length_append,length_append,F,N,hx]
     rw[length_append,length_append,F,ad]at g3;omega
end
end Go.Av
