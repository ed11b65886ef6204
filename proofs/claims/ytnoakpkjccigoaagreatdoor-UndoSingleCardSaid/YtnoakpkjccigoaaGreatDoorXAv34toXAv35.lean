/-
  ABSTRACT VALUES, 34: slices over cells of the call's own: the empty one cut; pieces put in place; two blocks do not overlap.
-/
import Derived.Test.YtnoakpkjccigoaaGreatDoorXAv32toXAv33
import Derived.Lib.Overlaps
namespace Go.Av
open Go Go.RowKit List
set_option linter.unusedSimpArgs false
set_option linter.unusedVariables false
theorem ey {A B B' C:List AV} {o:Nat} (ho:o=A.length) (hl:B'.length=B.length):aH (A++(B++C)) o B'=A++(B'++C):=by
 subst ho
 rw[aY _ _ _ (by simp;omega),take_append_of_le_length (Nat.le_refl _),take_length,←drop_drop,drop_left,append_assoc,hl,drop_left]
theorem j9 (l:List AV) (o:Nat) (h:o<=l.length):aH l o []=l:=by
 rw[aY _ _ _ (by simpa using h)];simp
theorem RowsAt.zero {sz:Nat} {cs:List AV} {o:Nat} (h:o<=cs.length):RowsAt sz cs o 0 []:=⟨rfl,by simp,by omega,by simp⟩
theorem RowsAt.mid {sz:Nat} {A C:List AV} {rows:List (List AV)} {o n:Nat} (ho:o=A.length) (hn:rows.length=n) (hr:∀r∈rows,r.length=sz):RowsAt sz (A++(rows.flatten++C)) o n rows:=by
 subst ho hn
 have hl:=au rows hr
 refine⟨rfl,hr,by rw[length_append,length_append,hl];omega,?_⟩
 rw[drop_left,take_append_of_le_length (by omega),take_of_length_le (by omega)]
theorem bD.mk0 {e:TypeId} {sz b n:Nat} {rows:List (List AV)} (hn:n=rows.length) (h2:rows.length<=maxLen) (h3:∀r∈rows,r.length=sz):bD e sz rows (.sc (.slice (some ⟨b,0,none⟩) n n)) [(b,.cells e rows.flatten)]:=by
 have:=bD.mk (e:=e) (b:=b) (pad:=[]) hn (Nat.le_refl _) h2 h3 (by rw[append_nil,au rows h3])
 rw[append_nil,←hn]at this
 exact this
theorem RowsAt.tail {sz:Nat} {rows:List (List AV)} {pad:List AV} (h:∀r∈rows,r.length=sz) {l:Nat} (hl:l<=rows.length):RowsAt sz (rows.flatten++pad) (l*sz) (rows.length-l) (rows.drop l):=by
 have:=RowsAt.cut (pad:=pad) h (l:=l) (k:=rows.length-l) (by omega)
 rwa [take_of_length_le (by rw[length_drop];omega)]at this
theorem RowsAt.head {sz:Nat} {rows:List (List AV)} {pad:List AV} (h:∀r∈rows,r.length=sz) {l:Nat} (hl:l<=rows.length):RowsAt sz (rows.flatten++pad) 0 l (rows.take l):=by
 have:=RowsAt.cut (pad:=pad) h (l:=0) (k:=l) (by omega)
 simpa using this
theorem RowsAt.tail' {sz o:Nat} {rows:List (List AV)} {pad:List AV} (h:∀r∈rows,r.length=sz) {l:Nat} (hl:l<=rows.length) (ho:o=l*sz\/l=rows.length/\o=0):RowsAt sz (rows.flatten++pad) o (rows.length-l) (rows.drop l):=by
 rcases ho with rfl|⟨rfl,rfl⟩
 ·exact RowsAt.tail h hl
 ·rw[Nat.sub_self,drop_length]
  exact RowsAt.zero (Nat.zero_le _)
theorem lT {sz:Nat} {rows:List (List AV)} {pad:List AV} (h:∀r∈rows,r.length=sz) {l:Nat} (hl:l<=rows.length):(rows.flatten++pad).take (l*sz)=(rows.take l).flatten:=by
 have hf:=au rows h
 rw[take_append_of_le_length (by rw[hf];exact Nat.mul_le_mul_right _ hl),gN h]
theorem Store.set_same:∀{σ:Store} {b:Nat} {x:AObj},σ.get b=some x->σ.set b x=σ
 |[],b,x,h=>by simp[Store.get]at h
 |(k,y)::σ,b,x,h=>by
  simp only[Store.get]at h
  simp only[Store.set]
  split at h
  ·rename_i hk
   injection h with h
   subst h
   rw[if_pos hk]
  ·rename_i hk
   rw[if_neg hk,Store.set_same h]
theorem jI {sz:Nat} {L:List (List AV)} {pad:List AV} {i:Nat} {r:List AV} (h:∀r∈L,r.length=sz) (hr:L[i]? =some r):((L.flatten++pad).drop (i*sz)).take sz=r:=by
 obtain⟨hi,hr⟩:=List.getElem?_eq_some_iff.1 hr
 rw[jk h hi,hr]
theorem iK {sz:Nat} {L:List (List AV)} {pad:List AV} {i:Nat} {c:List AV} (h:∀r∈L,r.length=sz) (hi:i<L.length) (hc:c.length=sz):aH (L.flatten++pad) (i*sz) c=(L.set i c).flatten++pad:=by
 have h1:=dS (off:=0) (c:=c) (sz:=sz) (by omega) (pad:=pad) h hi
 have h2:aH L[i] 0 c=c:=by
  have:=h L[i] (getElem_mem hi)
  rw[aY _ _ _ (by omega)]
  simp
  omega
 rw[Nat.add_zero,h2]at h1
 exact h1
section
variable {G:Glob} {P:Program} {σ:Store} {env:Env} {K:AV->Store->Prop}
theorem aW {t e:TypeId} {x:Operand} {lo hi mx:Option Operand} {l h m b o n cap sz:Nat} (o' n' c':Nat) (hu:P.underlying t=some (.slice e)) (hn:(P.info? e).map (·.size)=some sz)
  (hx:(SOpd.of x).eval G env= .sc (.slice (some ⟨b,o,none⟩) n cap)) (hlo:bndO G env lo 0 l) (hhi:bndO G env hi n h) (hmx:bndO G env mx cap m) (hmh:mx.isSome=true->hi.isSome=true) (h1:l<=h) (h2:h<=m) (h3:m<=cap)
  (ho:(if m=l then o else o+l*sz)=o') (hn':h-l=n') (hc':m-l=c') (hk:K (.sc (.slice (some ⟨b,o',none⟩) n' c')) σ):RAW G P (.slice t x lo hi mx) env σ K ⟨⟩:=by
 subst ho hn' hc'
 exact oJ hu hn hx hlo hhi hmx hmh h1 h2 h3 hk
theorem gy {dT sT elem e:TypeId} {b o dl dc sz:Nat} {x y:Operand} {cs:List AV} {ys:List (List AV)} (m:Nat) (cs':List AV) (hu:P.underlying dT=some (.slice elem)) (hsz:(P.info? elem).map (·.size)=some sz)
  (hxv:(SOpd.of x).eval G env= .sc (.slice (some ⟨b,o,none⟩) dl dc)) (hg:σ.get b=some (.cells e cs)) (hys:srcO σ sz ((SOpd.of y).eval G env) ys) (hm:min ys.length dl=m) (hm0:m≠0) (hfit:o+m*sz<=cs.length)
  (hsp:aH cs o (ys.take m).flatten=cs') (hk:K (.int .i64 (m:Nat)) (σ.set b (.cells e cs'))):
  RAW G P (.call (.mk (.builtin .copy) #[x,y] #[dT,sT])) env σ K ⟨⟩:=by
 subst hm hsp
 exact lY hu hsz hxv hg hys hfit (λh=>absurd h hm0) (λ_=>hk)
theorem lM {dT sT elem e:TypeId} {b o dl dc sz:Nat} {x y:Operand} {cs:List AV} {ys:List (List AV)} (m:Nat) (cs':List AV) (hu:P.underlying dT=some (.slice elem)) (hsz:(P.info? elem).map (·.size)=some sz)
  (hxv:(SOpd.of x).eval G env= .sc (.slice (some ⟨b,o,none⟩) dl dc)) (hg:σ.get b=some (.cells e cs)) (hys:srcO σ sz ((SOpd.of y).eval G env) ys) (hm:min ys.length dl=m) (hfit:o+m*sz<=cs.length)
  (hsp:aH cs o (ys.take m).flatten=cs') (hk:K (.int .i64 (m:Nat)) (σ.set b (.cells e cs'))):
  RAW G P (.call (.mk (.builtin .copy) #[x,y] #[dT,sT])) env σ K ⟨⟩:=by
 subst hm hsp
 refine lY hu hsz hxv hg hys hfit (λh=>?_) (λ_=>hk)
 rw[h]at hk hfit
 rw[take_zero,flatten_nil,j9 _ _ (by omega),Store.set_same hg]at hk
 exact hk
theorem oi {t e:TypeId} {x:Operand} {lo hi mx:Option Operand} {base:Option Addr} {sz:Nat} (hu:P.underlying t=some (.slice e)) (hn:(P.info? e).map (·.size)=some sz)
  (hx:(SOpd.of x).eval G env= .sc (.slice base 0 0)) (hlo:bndO G env lo 0 0) (hhi:bndO G env hi 0 0) (hmx:bndO G env mx 0 0) (hmh:mx.isSome=true->hi.isSome=true)
  (hk:K (.sc (.slice base 0 0)) σ):RAW G P (.slice t x lo hi mx) env σ K ⟨⟩:=by
 refine cW _ (λρ w a op ho hS hE=>?_) hk
 have hv:=ao (G:=G) hS hE x
 rw[hx]at hv
 simp only[Rep]at hv
 obtain⟨i,hi',his⟩:=Option.map_eq_some_iff.1 hn
 refine⟨_,?_,by simp only[Rep];rfl⟩
 have ev:∀{y:Operand} {k:IntKind} {v:Nat},(SOpd.of y).eval G env= .int k (v:Nat)->a.eval y= .int k (v:Nat):=by
  intro y k v hy
  have:=ao (G:=G) hS hE y
  rw[hy]at this
  simpa only[Rep]using this
 cases lo<;>cases hi<;>cases mx<;>simp only[bndO,Option.isSome,Bool.false_eq_true,forall_const,implies_true,reduceCtorEq]at hlo hhi hmx hmh
 all_goals(
  try obtain⟨k1,hlo⟩:=hlo
  try obtain⟨k2,hhi⟩:=hhi
  try obtain⟨k3,hmx⟩:=hmx
  try have e1:=ev hlo
  try have e2:=ev hhi
  try have e3:=ev hmx
  simp_all[execOp,Instr.sliceAt,Instr.slice,run_underlying hu,Instr.sliceBounds,Instr.sliceBound,asIntOf,sizeOf,typeInfo])
theorem RowsAt.grow {sz:Nat} {cs:List AV} {n:Nat} {rows ys:List (List AV)} (h:RowsAt sz cs 0 n rows) (hy:∀r∈ys,r.length=sz) (hf:(n+ys.length)*sz<=cs.length):RowsAt sz (aH cs (0+n*sz) ys.flatten) 0 (n+ys.length) (rows++ys):=by
 have hyl:=au ys hy
 have hrl:=au rows h.row
 have h1:=h.eq
 rw[drop_zero]at h1
 rw[Nat.add_mul]at hf
 refine⟨by rw[length_append,h.len],λr hr=>by rcases mem_append.1 hr with hr|hr<;>first|exact h.row r hr|exact hy r hr,?_,?_⟩
 ·rw[kj (by omega),Nat.add_mul];omega
 ·rw[aY _ _ _ (by omega),Nat.zero_add,h1,drop_zero,flatten_append,take_append_of_le_length (by rw[length_append,hrl,hyl,h.len,Nat.add_mul];omega),take_of_length_le (by rw[length_append,hrl,hyl,h.len,Nat.add_mul];omega)]
theorem RowsAt.all {sz:Nat} {rows:List (List AV)} {pad:List AV} (h:∀r∈rows,r.length=sz) {n:Nat} (hn:n=rows.length):RowsAt sz (rows.flatten++pad) 0 n rows:=by
 subst hn
 simpa using RowsAt.head (pad:=pad) h (Nat.le_refl _)
theorem RowsAt.split {sz:Nat} {cs:List AV} {n:Nat} {rows:List (List AV)} (h:RowsAt sz cs 0 n rows):cs=rows.flatten++cs.drop (n*sz):=by
 have:=h.eq
 rw[drop_zero]at this
 rw[←this,take_append_drop]
theorem RowsAt.pre {sz:Nat} {cs:List AV} {n:Nat} {rows:List (List AV)} (h:RowsAt sz cs 0 n rows) {l:Nat} (hl:l<=n):RowsAt sz cs 0 l (rows.take l):=by
 have h1:=RowsAt.head (pad:=cs.drop (n*sz)) h.row (l:=l) (by rw[h.len];exact hl)
 rwa [←h.split]at h1
theorem RowsAt.suf {sz:Nat} {cs:List AV} {n o:Nat} {rows:List (List AV)} (h:RowsAt sz cs 0 n rows) {l:Nat} (hl:l<=n) (ho:o=l*sz\/l=n/\o=0):RowsAt sz cs o (n-l) (rows.drop l):=by
 have h1:=RowsAt.tail' (pad:=cs.drop (n*sz)) (o:=o) h.row (l:=l) (by rw[h.len];exact hl) (by rw[h.len];exact ho)
 rwa [←h.split,h.len]at h1
theorem nz {t tx e e':TypeId} {sz bytes b n cap:Nat} {x y:Operand} {rows:List (List AV)} {cs z:List AV}
  (hu:P.underlying t=some (.slice e)) (hk:P.underlying tx=some (.slice e')) (hi:(P.info? e).map (λi=>(i.size,i.bytes))=some (sz,bytes)) (hz:cK P e=some z) (hzl:z.length=sz) (hpos:sz≠0) (hb0:bytes≠0)
  (hxv:(SOpd.of x).eval G env= .sc (.slice (some ⟨b,0,none⟩) n cap)) (hg:σ.get b=some (.cells e cs)) (hrow:RowsAt sz cs 0 n rows) (hcap:cap*sz<=cs.length) (hn:n<=cap)
  (hys:srcO σ sz ((SOpd.of y).eval G env) []) (hbytes:n*bytes<=140737488355328)
  (hk0:K (.sc (.slice (some ⟨b,0,none⟩) n cap)) σ):RAW G P (.call (.mk (.builtin .append) #[x,y] #[t,tx])) env σ K ⟨⟩:=by
 have hf:=hrow.fit
 refine eL hu hk hi hz hzl hpos hb0 hxv hg hrow (by omega) hys (by simpa using hbytes) (λ_=>?_) (λh=>by simp at h;omega)
 rw[flatten_nil,j9 _ _ (by omega),Store.set_same hg]
 exact hk0
theorem js {t tx e e':TypeId} {sz bytes b n cap:Nat} {x y:Operand} {rows ys:List (List AV)} {cs z:List AV}
  (hu:P.underlying t=some (.slice e)) (hk:P.underlying tx=some (.slice e')) (hi:(P.info? e).map (λi=>(i.size,i.bytes))=some (sz,bytes)) (hz:cK P e=some z) (hzl:z.length=sz) (hpos:sz≠0) (hb0:bytes≠0)
  (hxv:(SOpd.of x).eval G env= .sc (.slice (some ⟨b,0,none⟩) n cap)) (hg:σ.get b=some (.cells e cs)) (hrow:RowsAt sz cs 0 n rows) (hcap:cap*sz<=cs.length) (hcm:cap<=maxLen)
  (hys:srcO σ sz ((SOpd.of y).eval G env) ys) (hyr:∀r∈ys,r.length=sz) (hbytes:(n+ys.length)*bytes<=140737488355328)
  (hkR:∀b' cap' cs' σ',RowsAt sz cs' 0 (n+ys.length) (rows++ys)->cap'*sz<=cs'.length->n+ys.length<=cap'->cap'<=maxLen->(b'=b/\σ'=σ.set b (.cells e cs')\/b'∉σ.keys/\σ'=(b',.cells e cs')::σ)->
   K (.sc (.slice (some ⟨b',0,none⟩) (n+ys.length) cap')) σ'):RAW G P (.call (.mk (.builtin .append) #[x,y] #[t,tx])) env σ K ⟨⟩:=by
 have hf:=hrow.fit
 have hyl:=au ys hyr
 refine eL hu hk hi hz hzl hpos hb0 hxv hg hrow (by omega) hys hbytes (λhr=>?_) (λ_ b' cap' pad hb h1 h2 h3 h4=>?_)
 ·have hm:(n+ys.length)*sz<=cs.length:=Nat.le_trans (Nat.mul_le_mul_right _ hr) hcap
  have hm2:=hm
  rw[Nat.add_mul]at hm2
  exact hkR b cap _ _ (hrow.grow hyr hm) (by rw[kj (by omega)];exact hcap) hr hcm (.inl ⟨rfl,rfl⟩)
 ·exact hkR b' cap' _ _ (RowsAt.all h3 (by rw[length_append,hrow.len])) (by rw[h4];exact Nat.le_refl _) h1 h2 (.inr ⟨hb,rfl⟩)
theorem ag.freezeT {k:FuncId} {args:List AV} {T:AV} (h:ag G P k args [] (λr σ=>(r=T/\σ=[])\/∃b e n cap cs sz rows x,r= .tup [.sc (.slice (some ⟨b,0,none⟩) n cap),x]/\σ=[(b,.cells e cs)]/\RowsAt sz cs 0 n rows/\n<=cap/\cap<=maxLen/\T= .tup [.lst sz rows,x]/\x.flat=true)):Pure G P k args T:=
 ⟨h.1,λρ w vs hS hA=>(h.2 ρ w vs hS hA).mono λen w' ⟨v,r,σ',he,hr,hsat,hev,hrep⟩=>by
  rcases hr with⟨rfl,rfl⟩|⟨b,e,n,cap,cs,sz,rows,x,rfl,rfl,hR,h1,h2,rfl,hx⟩
  ·exact⟨v,r,[],he,⟨rfl,rfl⟩,hsat,hev,hrep⟩
  ·have hs:=SubN.nil [(b,AObj.cells e cs)]
   refine⟨v,_,[],he,⟨rfl,rfl⟩,hsat.subN hs,hev.trans (Ev.of_sub hs.1 _),?_⟩
   simp only[Rep,RepL]at hrep
   obtain⟨vs',rfl,u1,us1,e1,hu1,u2,us2,e2,hu2,e3⟩:=hrep
   subst e3 e2
   have hc:cs=rows.flatten++cs.drop (n*sz):=by
    have:=hR.eq
    rw[drop_zero]at this
    rw[←this,take_append_drop]
   have hS2:Sat G ((b,.cells e (rows.flatten++cs.drop (n*sz)))::[]++ρ) w':=by rw[←hc];exact hsat
   subst hu1
   have hf:=Rep.freeze (c:=n) (cap:=cap) hS2 hR.row hR.len.symm (by rw[hR.len];exact h1) h2
   simp only[Rep,RepL]
   exact⟨vs',rfl,_,_,e1,by simpa[Rep]using hf,u2,[],rfl,AV.flat_rep hx hu2,rfl⟩⟩
theorem XOVER {k tS tR e b1 b2 o2 n2 c2 sz k1:Nat} {cs:List AV} {e1 e2:TypeId} {rows:List (List AV)}
  (hrun:∀(w:World) (vs:Array Value),(callFunc k vs).run P w=((Extern.SlicesOverlaps.overlaps #[tS,tS] #[tR] vs).run P w).andThen λv w'=>.ok (.value v) w')
  (ht:P.underlying tS=some (.slice e)) (hz:(P.info? e).map (·.size)=some sz) (hne:b1≠b2) (h1:σ.get b1=some (.tok e1 k1)) (h2:σ.get b2=some (.cells e2 cs)) (hc:cs≠[]):
  XSpec G P (.func (.func k) #[] #[]) [.own (some b1) e1 sz rows,.sc (.slice (some ⟨b2,o2,none⟩) n2 c2)] σ (λr σ'=>r= .bool false/\σ'=σ):=by
 refine⟨k,#[],#[],rfl,λρ w vs hS hA=>?_⟩
 simp only[map_nil,nil_append,append_nil,Array.toList]at hA
 obtain⟨u,v,rfl,hu,hv⟩:=ji hA
 simp only[Rep]at hu hv
 obtain⟨cap,rfl,_,_,hsh,_⟩:=hu
 subst hv
 obtain⟨v1,hh1,_,_⟩:=hS.obj b1 _ (mem_append.2 (.inl (Store.get_mem h1)))
 obtain⟨v2,hh2,_,hr2⟩:=hS.obj b2 _ (mem_append.2 (.inl (Store.get_mem h2)))
 obtain⟨i,hi,his⟩:=Option.map_eq_some_iff.1 hz
 have hl2:=hr2.length
 have hv2:v2.size≠0:=by
  intro h0
  have:cs.length=0:=by rw[←hl2];simpa using h0
  exact hc (eq_nil_of_length_eq_zero this)
 have hr:=Lib.run_overlaps_apart (P:=P) w tS tR e ht sz (λw=>by simp[sizeOf,typeInfo,hi,his]) ⟨b1,0,none⟩ ⟨b2,o2,none⟩ rows.length cap n2 c2 hne e1 e2 v1.size v2.size
  (by simp[World.shape?,hh1]) (by simp[World.shape?,hh2]) hv2 (by simp[World.frozen?,hh1]) (by simp[World.frozen?,hh1])
 refine⟨.bool false,.bool false,σ,w,?_,⟨rfl,rfl⟩,hS,Ev.refl σ w,by simp only[Rep]⟩
 rw[hrun,hr]
 rfl
end
def fnV (k:Nat):AV:=.sc (.func (.func k) #[] #[])
section
variable {G:Glob} {P:Program}
theorem oA {t e:TypeId} {f1 f2 f3 f4:Nat} {env:Env} {σ:Store} {K:AV->Store->Prop} (hu:P.underlying t=some (.array 4 e)) (hz:(P.info? t).bind (·.zero)=some (.agg #[.nilFunc,.nilFunc,.nilFunc,.nilFunc]))
  (hs:bj P e=some 1) (hk:K (.agg [fnV f1,fnV f2,fnV f3,fnV f4]) σ):RAW G P (.build t #[(0,.func f1),(1,.func f2),(2,.func f3),(3,.func f4)]) env σ K ⟨⟩:=by
 refine cW _ (λρ w ac op ho hS hE=>?_) hk
 refine⟨.agg #[.func (.func f1) #[] #[],.func (.func f2) #[] #[],.func (.func f3) #[] #[],.func (.func f4) #[] #[]],?_,?_⟩
 ·obtain⟨i,hi,hiz⟩:∃i,P.info? t=some i/\i.zero=some (.agg #[.nilFunc,.nilFunc,.nilFunc,.nilFunc]):=by
   cases h:P.info? t with
   |none=>simp[h]at hz
   |some i=>exact⟨i,rfl,by simpa[h]using hz⟩
  have hzr:(zeroValue t).run P w= .ok (.agg #[.nilFunc,.nilFunc,.nilFunc,.nilFunc]) w:=by simp[zeroValue,typeInfo,hi,hiz]
  simp[execOp,ho,Instr.build,hzr,run_underlying hu,bv hs,Act.eval]
  rfl
 ·simp only[fnV,Rep,RepL]
  refine⟨_,rfl,by simp[Value.oneCell'],_,_,rfl,rfl,_,_,rfl,rfl,_,_,rfl,rfl,_,_,rfl,rfl,rfl⟩
theorem bz {t e:TypeId} {L:Nat} {i j:Nat} {n:Nat} {kc:IntKind} {cs:List AV} {env:Env} {σ:Store} {K:AV->Store->Prop} (hi:env.get i= .agg cs) (hj:env.get j= .int kc (n:Int)) (hu:P.underlying t=some (.array L e)) (hd:(P.underlying e).map aggD=some false)
  (hs:bj P e=some 1) (hl:cs.length=L) (hn:n<L) (hk:K (cs.getD n .any) σ):RAW G P (.index t (.tmp i) (.tmp j)) env σ K ⟨⟩:=by
 obtain⟨d,hd,ha⟩:∃d,P.underlying e=some d/\aggD d=false:=by
  cases h:P.underlying e with
  |none=>simp[h]at hd
  |some d=>exact⟨d,rfl,by simpa[h]using hd⟩
 refine cW _ (λρ w ac op ho hS hE=>?_) hk
 have h1:=hE i
 have h2:=hE j
 rw[hi]at h1
 rw[hj]at h2
 simp only[Rep]at h1 h2
 obtain⟨vs,e1,ho1,hr⟩:=h1
 have hvl:=hr.length
 have hsz:n+1<=vs.size:=by simp at hvl;omega
 have e1:ac.eval (.tmp i)= .agg vs:=e1
 have e2:ac.eval (.tmp j)= .int kc n:=h2
 refine⟨(vs.toList.drop n).headD undef,?_,?_⟩
 ·have hp:=fR hd hs vs n (by rw[ha];rfl) hsz w
  rw[ha]at hp
  have hb:(0:Int)<=n/\(n:Int)<L:=by omega
  have hsr:=bv hs w
  simp[execOp,ho,Instr.index,e1,e2,asIntOf,run_underlying hu,hb,hsr,hp]
  intro h;omega
 ·have hc:n<cs.length:=by omega
  have g:=hr.get n hc (by simp at hvl ⊢;omega)
  have e3:(vs.toList.drop n).headD undef=vs.toList[n]'(by simp;omega):=by
   rw[drop_eq_getElem_cons (by simp;omega)];rfl
  rw[e3,getD_eq_getElem?_getD,getElem?_eq_getElem hc]
  exact g
end
end Go.Av
