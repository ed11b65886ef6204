/-
  ABSTRACT VALUES, 24: maps: make, look up, put, length.
-/
import Derived.Test.YtnoakpkjccigoaaGreatDoorVXAv16toXAv23
import Derived.MapKept
import Derived.Carry
namespace Go.Av
open Go Go.RowKit List
set_option linter.unusedSimpArgs false
set_option linter.unusedVariables false
structure MapK (P:Program) (kT:TypeId) {κ:Type} [DecidableEq κ] (val:κ->Value):Prop where
 ck:∀(em:Bool) (k:κ) (w:World),(Instr.checkKey em 10000 kT (val k)).run P w= .ok () w
 find:∀(k:κ) (ks:List κ) (ents:List MapEntry) (w:World),ents.map (·.key)=ks.map val->
  (Instr.findKey kT (val k) ents).run P w= .ok (((ks.zip ents).zipIdx.find? λq=>decide (q.1.1=k)).map λq=>(q.2,q.1.2.val)) w
 stays:∀(k:κ) (w:World),(Instr.keyThatStays (val k) (val k)).run P w= .ok (val k) w
def aS {κ:Type} [DecidableEq κ] (k:κ):List (κ×AV)->Option AV
 |[]=>none
 |p::l=>if p.1=k then some p.2 else aS k l
def dj {κ:Type} [DecidableEq κ] (k:κ) (x:AV):List (κ×AV)->List (κ×AV)
 |[]=>[(k,x)]
 |p::l=>if p.1=k then (p.1,x)::l else p::dj k x l
def cl {κ:Type} (val:κ->Value) (l:List (κ×AV)):List (Value×AV):=l.map λp=>(val p.1,p.2)
section
variable {G:Glob} {P:Program} {env:Env} {σ:Store} {K:AV->Store->Prop} {κ:Type} [DecidableEq κ] {kT:TypeId} {val:κ->Value}
theorem ic {α:Type} (p:α->Bool):∀(l:List α) (n:Nat),((l.zipIdx (n+1)).find? λq=>p q.1)=((l.zipIdx n).find? λq=>p q.1).map λq=>(q.1,q.2+1)
 |[],n=>rfl
 |a::l,n=>by
  simp only[zipIdx_cons,find?_cons]
  cases h:p a with
  |true=>simp
  |false=>simp only[];exact ic p l (n+1)
theorem kO {τ:Store} {w:World} (k:κ):∀(l:List (κ×AV)) (ents:List MapEntry),ents.map (·.key)=(l.map λp=>val p.1)->RepL τ w (l.map (·.2)) (ents.map (·.val))->
  (aS k l=none/\(((l.map (·.1)).zip ents).zipIdx.find? λq=>decide (q.1.1=k))=none)\/
  ∃x i e,aS k l=some x/\(((l.map (·.1)).zip ents).zipIdx.find? λq=>decide (q.1.1=k))=some ((k,e),i)/\ents[i]? =some e/\Rep τ w x e.val/\e.key=val k/\
   (∀v y,Rep τ w y v->RepL τ w ((dj k y l).map (·.2)) ((ents.modify i λe=>{e with key:=val k,val:=v}).map (·.val))/\(ents.modify i λe=>{e with key:=val k,val:=v}).map (·.key)=(dj k y l).map λp=>val p.1)
 |[],ents,hk,hr=>.inl ⟨rfl,by simp⟩
 |p::l,[],hk,hr=>by simp at hk
 |p::l,e::ents,hk,hr=>by
  simp only[map_cons,List.cons.injEq]at hk
  simp only[map_cons,RepL]at hr
  obtain⟨u,us,I,M,N⟩:=hr
  injection I with I h1'
  subst I h1'
  by_cases D:p.1=k
  ·right
   subst D
   refine⟨p.2,0,e,by simp[aS],by simp[zipIdx_cons],rfl,M,hk.1,λv y J=>?_⟩
   simp only[dj,if_true,modify_zero_cons,map_cons,RepL]
   exact⟨⟨v,_,rfl,J,N⟩,by rw[hk.2]⟩
  ·rcases kO k l ents hk.2 N with⟨E,F⟩|⟨x,i,e',E,F,O,T,V,X⟩
   ·left
    refine⟨by simp[aS,D,E],?_⟩
    simp only[map_cons,zip_cons_cons,zipIdx_cons,find?_cons,D,decide_false]
    have:=ic (λq:κ×MapEntry=>decide (q.1=k)) ((l.map (·.1)).zip ents) 0
    rw[Nat.zero_add]at*
    rw[this,F];rfl
   ·right
    refine⟨x,i+1,e',by simp[aS,D,E],?_,by simpa using O,T,V,λv y J=>?_⟩
    ·simp only[map_cons,zip_cons_cons,zipIdx_cons,find?_cons,D,decide_false]
     have:=ic (λq:κ×MapEntry=>decide (q.1=k)) ((l.map (·.1)).zip ents) 0
     rw[Nat.zero_add]at*
     rw[this,F];rfl
    ·obtain⟨Y,Z⟩:=X v y J
     simp only[dj,if_neg D,modify_succ_cons,map_cons,RepL]
     exact⟨⟨_,_,rfl,M,Y⟩,by rw[hk.1,Z]⟩
theorem im {k:κ} {x:AV}:∀{l:List (κ×AV)},aS k l=none->dj k x l=l++[(k,x)]
 |[],_=>rfl
 |p::l,h=>by
  simp only[aS]at h
  split at h
  ·cases h
  ·rename_i D
   simp only[dj,if_neg D,cons_append,im h]
theorem set_sub {b k:Nat} {y z:AObj}:∀{σ:Store},(k,z)∈σ.set b y->(k,z)∈σ\/(k=b/\z=y)
 |[],h=>by simp[Store.set]at h
 |(k0,x0)::s,h=>by
  simp only[Store.set]at h
  split at h
  ·rename_i D
   rcases mem_cons.1 h with h|h
   ·cases h;exact .inr ⟨D,rfl⟩
   ·exact .inl (mem_cons_of_mem _ h)
  ·rcases mem_cons.1 h with h|h
   ·cases h;exact .inl (by simp)
   ·rcases set_sub h with h|h
    ·exact .inl (mem_cons_of_mem _ h)
    ·exact .inr h
theorem Ev.setMap {w:World} {b:Nat} {es M:List (Value×AV)} {ents D:Array MapEntry} {c T:Nat} (X:(b,AObj.map es)∈σ) (V:w.heap[b]? =some (.map ents c)):
  Ev σ w (σ.set b (.map M)) {w with heap:=w.heap.setIfInBounds b (.map D T)}:=by
 have Z:b<w.heap.size:=(Array.getElem?_eq_some_iff.1 V).1
 have F:∀k,k≠b->(w.heap.setIfInBounds b (.map D T))[k]? =w.heap[k]? :=λk E=>by simp[Ne.symm E]
 have I:∀o,Mut σ b o:=λo=>⟨_,X,trivial⟩
 refine⟨rfl,rfl,rfl,by simp,λk E J=>⟨F k (λe=>J (by rw[e];exact mem_map.2 ⟨_,X,rfl⟩)),λh=>J (by rwa [dk]at h)⟩,?_,?_⟩
 ·intro k s Y
  by_cases E:k=b
  ·subst E
   simp[World.shape?,V]at Y
  ·unfold World.shape? at*
   rw[F k E]
   exact Y
 ·intro a v hv J
  by_cases E:a.block=b
  ·exact absurd (E ▸ I a.off) J
  ·refine⟨?_,?_⟩
   ·unfold World.cell? at*
    rw[F _ E]
    exact hv
   ·rintro⟨x,N,O⟩
    rcases set_sub N with N|⟨e,_⟩
    ·exact J ⟨x,N,O⟩
    ·exact E e
theorem cV {t:TypeId} (F:∀b,b∉σ.keys->K (.sc (.map (some b))) ((b,.map [])::σ)):RAW G P (.makeMap t none) env σ K ⟨⟩:=by
 intro ρ w a op I E J
 have D:(w.alloc (.map #[] 0)).heap[w.heap.size]? =some (.map #[] 0):=heap_alloc_new w _
 refine⟨.map (some w.heap.size),w.alloc (.map #[] 0),.sc (.map (some w.heap.size)),_,.inl ?_,F _ (fk E),E.alloc _ _ ⟨#[],0,D,rfl,by simp[RepL]⟩,Ev.alloc _ _,by simp only[Rep]⟩
 simp[execOp,I,run_makeMap]
theorem aG (M:MapK P kT val) {xT eT:TypeId} {x ix:Operand} {D:Bool} {b:Nat} {l:List (κ×AV)} {k:κ} {z:Value} {zv:AV} (hx:(SOpd.of x).eval G env= .sc (.map (some b)))
  (X:∀τ w v,Rep τ w ((SOpd.of ix).eval G env) v->v=val k) (hu:P.underlying xT=some (.map kT eT)) (hg:σ.get b=some (.map (cl val l))) (hz:(P.info? eT).bind (·.zero)=some z) (J:∀τ w,Rep τ w zv z)
  (hk:K (if D then .tup [(aS k l).getD zv,.bool (aS k l).isSome]else (aS k l).getD zv) σ):RAW G P (.lookup xT x ix D) env σ K ⟨⟩:=by
 refine cW _ (λρ w a op ho V hE=>?_) hk
 have N:=ao V hE x
 have h2:=X _ _ _ (ao V hE ix)
 rw[hx]at N
 simp only[Rep]at N
 obtain⟨ents,c,hh,Z,I⟩:=V.obj b _ (mem_append.2 (.inl (Store.get_mem hg)))
 have e1:ents.toList.map (·.key)=l.map λp=>val p.1:=by rw[Z];simp[cl]
 have e2:(cl val l).map (·.2)=l.map (·.2):=by simp[cl]
 rw[e2]at I
 have e3:=M.find k (l.map (·.1)) ents.toList w (by rw[e1];simp)
 have ah:(zeroValue eT).run P w= .ok z w:=by
  obtain⟨i,hi,Y⟩:=Option.bind_eq_some_iff.1 hz
  have ac:(typeInfo eT).run P w= .ok i w:=run_typeInfo w hi
  simp[zeroValue,ac,Y]
 have E:∀em,(Instr.checkKey em 10000 kT (val k)).run P w= .ok () w:=λem=>M.ck em k w
 have F:(getObj b).run P w= .ok (.map ents c) w:=by simp[getObj,Sem.run,hh]
 have al:∀o,(setObj b o).run P w= .ok () {w with heap:=w.heap.setIfInBounds b o}:=λo=>by simp[setObj,Sem.run,hh]
 rcases kO k l ents.toList e1 I with⟨O,T⟩|⟨y,i,e,O,T,a3,a4,_,_⟩
 ·refine⟨if D then .tuple #[z,.bool false]else z,?_,?_⟩
  ·simp[execOp,ho,N,h2,Instr.lookup,run_underlying hu,F,E,e3,T,ah]
  ·rw[O]
   cases D with
   |false=>simpa using J _ _
   |true=>simp only[if_true,Option.getD_none,Option.isSome_none,Rep];exact⟨_,rfl,by simp only[RepL];exact⟨_,_,rfl,J _ _,_,_,rfl,by simp only[Rep],rfl⟩⟩
 ·refine⟨if D then .tuple #[e.val,.bool true]else e.val,?_,?_⟩
  ·simp[execOp,ho,N,h2,Instr.lookup,run_underlying hu,F,E,e3,T]
  ·rw[O]
   cases D with
   |false=>simpa using a4
   |true=>simp only[if_true,Option.getD_some,Option.isSome_some,Rep];exact⟨_,rfl,by simp only[RepL];exact⟨_,_,rfl,a4,_,_,rfl,by simp only[Rep],rfl⟩⟩
theorem eU (M:MapK P kT val) {xT eT:TypeId} {x ix y:Operand} {b:Nat} {l:List (κ×AV)} {k:κ} {yv:AV} (hx:(SOpd.of x).eval G env= .sc (.map (some b)))
  (ah:∀τ w v,Rep τ w ((SOpd.of ix).eval G env) v->v=val k) (hy:(SOpd.of y).eval G env=yv) (hu:P.underlying xT=some (.map kT eT)) (hg:σ.get b=some (.map (cl val l)))
  (hk:K aC (σ.set b (.map (cl val (dj k yv l))))):RAW G P (.mapUpdate xT x ix y) env σ K ⟨⟩:=by
 intro ρ w a op ho F hE
 have Y:=ao F hE x
 have h2:=ah _ _ _ (ao F hE ix)
 have h3:=ao F hE y
 rw[hx]at Y
 rw[hy]at h3
 simp only[Rep]at Y
 have hm:=Store.get_mem hg
 obtain⟨ents,c,Z,al,I⟩:=F.obj b _ (mem_append.2 (.inl hm))
 have e1:ents.toList.map (·.key)=l.map λp=>val p.1:=by rw[al];simp[cl]
 have e2:(cl val l).map (·.2)=l.map (·.2):=by simp[cl]
 rw[e2]at I
 have e3:=M.find k (l.map (·.1)) ents.toList w (by rw[e1];simp)
 have an:b<w.heap.size:=(Array.getElem?_eq_some_iff.1 Z).1
 have N:∀(D:Array MapEntry) (J:Nat),D.toList.map (·.key)=((dj k yv l).map λp=>val p.1)->RepL (σ++ρ) w ((dj k yv l).map (·.2)) (D.toList.map (·.val))->
   Sat G (σ.set b (.map (cl val (dj k yv l)))++ρ) {w with heap:=w.heap.setIfInBounds b (.map D J)}/\Ev σ w (σ.set b (.map (cl val (dj k yv l)))) {w with heap:=w.heap.setIfInBounds b (.map D J)}:=by
  intro D J g1 g2
  have E:Ev σ w (σ.set b (.map (cl val (dj k yv l)))) {w with heap:=w.heap.setIfInBounds b (.map D J)}:=Ev.setMap hm Z
  refine⟨?_,E⟩
  have V:=F.nodup_left
  refine F.step E (by rw[dk];exact V) (λk hk=>.inl (by rwa [dk]at hk)) ?_
  intro k' q hq
  rcases jH hq V with⟨rfl,rfl⟩|⟨aw,hq⟩
  ·refine⟨D,J,by simp[an],by rw[g1];simp[cl],?_⟩
   have:=RepL.ev E _ _ g2
   have e4:(cl val (dj k yv l)).map (·.2)=(dj k yv l).map (·.2):=by simp[cl]
   rw[e4];exact this
  ·exact(F.obj k' q (mem_append.2 (.inl hq))).keep E (by simp[Ne.symm aw])
 have O:∀em,(Instr.checkKey em 10000 kT (val k)).run P w= .ok () w:=λem=>M.ck em k w
 have T:(getObj b).run P w= .ok (.map ents c) w:=by simp[getObj,Sem.run,Z]
 have X:∀o,(setObj b o).run P w= .ok () {w with heap:=w.heap.setIfInBounds b o}:=λo=>by simp[setObj,Sem.run,Z]
 rcases kO k l ents.toList e1 I with⟨a1,a2⟩|⟨u,i,e,a1,a2,a3,a4,a5,a6⟩
 ·obtain⟨s1,s2⟩:=N (ents.push {key:=val k,val:=a.eval y,born:=c}) (c+1) (by rw[im a1];simp[e1]) (by
   rw[im a1]
   simp only[map_append,map_cons,map_nil,Array.toList_push]
   exact RepL.append I (by simp only[RepL];exact⟨_,_,rfl,h3,rfl⟩))
  refine⟨undef,_,aC,_,.inr ⟨?_,rfl⟩,hk,s1,s2,?_⟩
  ·simp[execOp,ho,Y,h2,Instr.mapUpdate,run_underlying hu,T,O,e3,a2,X]
  ·exact cg _ _
 ·obtain⟨b1,b2⟩:=a6 (a.eval y) yv h3
  have ba:=M.stays k w
  have ac:ents[i]? =some e:=by simpa using a3
  obtain⟨s1,s2⟩:=N (ents.modify i λe=>{e with key:=val k,val:=a.eval y}) c (by simpa[Array.toList_modify]using b2) (by simpa[Array.toList_modify]using b1)
  refine⟨undef,_,aC,_,.inr ⟨?_,rfl⟩,hk,s1,s2,?_⟩
  ·simp[execOp,ho,Y,h2,Instr.mapUpdate,run_underlying hu,T,O,e3,a2,ac,a5,ba,X]
  ·exact cg _ _
end
section
variable {P:Program}
theorem n0 {t:TypeId} {fs:Array Field} {ks:List Nat} (M:P.underlying t=some (.struct fs)) (F:du P 8 t=some ks) (us vs:Array Value) (r:Bool) (T:us.size=ks.length) (V:vs.size=ks.length)
  (N:eqK ks us.toList vs.toList=some r) (w':World):(Op.equalIn 10000 t (.agg us) (.agg vs)).run P w'= .ok r w':=by
 have D:P.stoodInHeld t=false/\∃E,eP (du P 7) fs.toList 0=some E/\E=ks:=by
  simp only[du,M]at F
  split at F
  ·cases F
  rename_i D
  split at F
  ·rename_i E I
   split at F
   ·cases F;exact⟨by simpa using D,_,I,rfl⟩
   ·cases F
  ·cases F
 obtain⟨D,E,I,rfl⟩:=D
 have O:P.underlying t=some (.struct (P.fieldsOf t)):=by simp[Program.fieldsOf,M]
 have J:P.fieldsOf t=fs:=by simp[Program.fieldsOf,M]
 rw[run_equalIn_struct w' 9999 t _ _ O D,J]
 exact dJ (flatOk P 7) fs.toList 0 E I 9998 us vs r (by omega) (by omega) (by omega) (by simpa using N) w'
def CheckF (P:Program) (em:Bool) (d:Nat):Prop:=
 ∀(t:TypeId) (ks:List Nat),du P d t=some ks->∀(D:Nat) (xs:Array Value) (off:Nat),d<=D->off+ks.length<=xs.size->∀w':World,
  ∃u,(part t xs off).run P w'= .ok u w'/\(Instr.checkKey em D t u).run P w'= .ok () w'
theorem dy {em:Bool} {d:Nat} (F:CheckF P em d) (D:Nat) (I:d<=D) (xs:Array Value) (w':World):∀(fs:List Field) (off:Nat) (ks:List Nat),eP (du P d) fs off=some ks->off+ks.length<=xs.size->
  ∀f∈fs,f.name≠ "_" /\∃u,(part f.type xs f.offset).run P w'= .ok u w'/\(Instr.checkKey em D f.type u).run P w'= .ok () w'
 |[],_,_,_,_,f,hf=>by cases hf
 |g::fs,off,ks,h,hx,f,hf=>by
  simp only[eP]at h
  split at h
  ·cases h
  rename_i E
  simp at E
  split at h
  ·rename_i k1 J
   split at h
   ·rename_i N M
    cases h
    simp only[length_append]at hx
    rcases mem_cons.1 hf with rfl|hf
    ·exact⟨E.1,F f.type k1 J D xs f.offset I (by rw[E.2];omega) w'⟩
    ·exact dy F D I xs w' fs _ N M (by omega) f hf
   ·cases h
  ·cases h
theorem fe {em:Bool} {t:TypeId} {fs:Array Field} (F:P.underlying t=some (.struct fs)) (D:Nat) (xs:Array Value) (w':World)
  (h:∀f∈fs.toList,f.name≠ "_" /\∃u,(part f.type xs f.offset).run P w'= .ok u w'/\(Instr.checkKey em D f.type u).run P w'= .ok () w'):(Instr.checkKey em (D+1) t (.agg xs)).run P w'= .ok () w':=by
 rw[Instr.checkKey]
 simp only[Sem.run_bind,run_underlying F,Result.andThen_ok]
 rw[←Array.forIn_toList]
 generalize fs.toList=L at h
 induction L with
 |nil=>simp
 |cons f L ih=>
  obtain⟨E,a,J,M⟩:=h f (by simp)
  simp only[forIn_cons,Sem.run_bind,E,ne_eq,not_false_eq_true,if_true,Result.andThen_ok,J,M,Sem.run_pure]
  exact ih λy I=>h y (by simp[I])
theorem checkF (em:Bool):∀d,CheckF P em d
 |0,t,ks,h=>by simp[du]at h
 |d+1,t,ks,h=>by
  intro D xs off X T w'
  obtain⟨D',rfl⟩:∃D',D=D'+1:=⟨D-1,by omega⟩
  have one:∀k:TypeDesc,P.underlying t=some k->(k= .bool\/(∃q,k= .int q)\/k= .string)->ks.length=1->∃u,(part t xs off).run P w'= .ok u w'/\(Instr.checkKey em (D'+1) t u).run P w'= .ok () w':=by
   intro k E N Y
   refine⟨xs[off]'(by omega),?_,?_⟩
   ·unfold part
    rw[Sem.run_bind,cy E]
    rcases N with rfl|⟨q,rfl⟩|rfl<;>simp[aggD,show off<xs.size by omega]
   ·rw[Instr.checkKey]
    simp only[Sem.run_bind,run_underlying E,Result.andThen_ok]
    rcases N with rfl|⟨q,rfl⟩|rfl<;>rfl
  simp only[du]at h
  split at h
  ·rename_i E
   cases h
   exact one _ E (.inl rfl) rfl
  ·rename_i E
   cases h
   exact one _ E (.inr (.inl ⟨_,rfl⟩)) rfl
  ·rename_i E
   cases h
   exact one _ E (.inr (.inr rfl)) rfl
  ·rename_i fs E
   split at h
   ·cases h
   rename_i O
   split at h
   ·rename_i V J
    split at h
    ·rename_i M
     cases h
     have I:bj P t=some ks.length:=by simpa using M
     have F:aggD (.struct fs)=true:=rfl
     refine⟨_,fR E I xs off (by simp[F]) T w',?_⟩
     simp only[F,if_true]
     refine fe E D' _ w' (dy (checkF em d) D' (by omega) _ w' fs.toList 0 ks J (by simp;omega))
    ·cases h
   ·cases h
  ·cases h
theorem iB (n:Nat) (k:IntKind) (a:Int):Instr.sameBits n (.int k a) (.int k a)=true:=by cases n<;>simp[Instr.sameBits]
theorem mS (n:Nat) (s:ByteArray):Instr.sameBits n (.string s) (.string s)=true:=by
 obtain⟨d⟩:=s
 have h:((⟨d⟩:ByteArray)==⟨d⟩)=true:=by show(d==d)=true;simp
 cases n<;>simp[Instr.sameBits,h]
theorem oc {α:Type}:∀l:List α,l.zip l=l.map λx=>(x,x)
 |[]=>rfl
 |x::l=>by simp[oc l]
theorem l5 {t:TypeId} {fs:Array Field} {ks:List Nat} (M:P.underlying t=some (.struct fs)) (E:du P 8 t=some ks) {κ:Type} [DecidableEq κ] (vals:κ->List Value) (V:∀k,(vals k).length=ks.length)
  (T:∀a b,eqK ks (vals a) (vals b)=some (decide (a=b))) (Z:∀k,∀v∈vals k,∀n,Instr.sameBits n v v=true):MapK P t (λk=>.agg (vals k).toArray) where
 ck em k w:=by
  have J:∃D,eP (du P 7) fs.toList 0=some D/\D=ks:=by
   simp only[du,M]at E
   split at E
   ·cases E
   rename_i J
   split at E
   ·rename_i D I
    split at E
    ·cases E;exact⟨_,I,rfl⟩
    ·cases E
   ·cases E
  obtain⟨D,I,rfl⟩:=J
  exact fe M 9999 _ w (dy (checkF em 7) 9999 (by omega) _ w fs.toList 0 D I (by simp[V]))
 find k l ents w F:=by
  have Y:∀b:κ,(Op.equal t (.agg (vals k).toArray) (.agg (vals b).toArray)).run P w= .ok (decide (k=b)) w:=λb=>
   n0 M E _ _ _ (by simp[V]) (by simp[V]) (by simpa using T k b) w
  have N:∀(l:List κ) (ents:List MapEntry) (i:Nat),ents.map (·.key)=l.map (λk=>Value.agg (vals k).toArray)->
    (Instr.findAsking t (.agg (vals k).toArray) ents i).run P w= .ok ((((l.zip ents).zipIdx i).find? λq=>decide (q.1.1=k)).map λq=>(q.2,q.1.2.val)) w:=by
   intro l
   induction l with
   |nil=>
    intro ents i F
    cases ents with
    |nil=>simp[Instr.findAsking]
    |cons e es=>simp at F
   |cons b l ih=>
    intro ents i F
    cases ents with
    |nil=>simp at F
    |cons e es=>
     simp only[map_cons,List.cons.injEq]at F
     simp only[Instr.findAsking,Sem.run_bind,F.1,Y b,Result.andThen_ok,zip_cons_cons,zipIdx_cons,find?_cons]
     by_cases O:k=b
     ·subst O;simp
     ·have:decide (b=k)=false:=by simp;exact λe=>O e.symm
      simp only[decide_eq_false O,this,Bool.false_eq_true,if_false]
      exact ih es (i+1) F.2
  have X:(Instr.findKey t (.agg (vals k).toArray) ents).run P w=(Instr.findAsking t (.agg (vals k).toArray) ents 0).run P w:=by
   cases ents with
   |nil=>simp[Instr.findKey,run_underlying M,Instr.findNow,Instr.findAsking]
   |cons e es=>simp[Instr.findKey,run_underlying M,Instr.findNow,Instr.sameNow]
  rw[X]
  exact N l ents 0 F
 stays k w:=by
  have h:Instr.sameBits 10000 (.agg (vals k).toArray) (.agg (vals k).toArray)=true:=by
   simp only[Instr.sameBits,beq_self_eq_true,Bool.true_and,oc,all_map,all_eq_true,Function.comp]
   intro v hv
   exact Z k v (by simpa using hv) _
  simp[Instr.keyThatStays,h]
theorem oN {G:Glob} {env:Env} {σ:Store} {K:AV->Store->Prop} {x:Operand} {J kT eT:TypeId} {b:Nat} {es:List (Value×AV)} (hx:(SOpd.of x).eval G env= .sc (.map (some b))) (Y:P.underlying J=some (.map kT eT)) (N:σ.get b=some (.map es))
  (T:K (.int .i64 es.length) σ):RAW G P (.call (.mk (.builtin .len) #[x] #[J])) env σ K ⟨⟩:=by
 refine cW _ (λρ w a op X I M=>?_) T
 have D:=ao I M x
 rw[hx]at D
 simp only[Rep]at D
 obtain⟨ents,c,O,F,Z⟩:=I.obj b _ (mem_append.2 (.inl (Store.get_mem N)))
 have V:ents.size=es.length:=by have:=congrArg List.length F;simpa using this
 refine⟨.int .i64 es.length,?_,by simp only[Rep]⟩
 have E:(getObj b).run P w= .ok (.map ents c) w:=by simp[getObj,Sem.run,O]
 simp[execOp,X,resolve,invoke,builtin,D,Builtin.len_,run_underlying Y,E,V]
 rfl
end
def rF (v:Value):Prop:=v= .slice none 0 0\/∃a,v= .slice (some a) 0 0
theorem jz {b:Nat} {x y:AObj}:∀{σ:Store},b∈σ.keys->(b,y)∈σ.set b y
 |[],h=>by simp[Store.keys]at h
 |(k,z)::σ,h=>by
  simp only[Store.set]
  by_cases D:k=b
  ·rw[if_pos D,D];simp
  ·rw[if_neg D]
   simp only[Store.keys,map_cons,mem_cons]at h
   rcases h with h|h
   ·exact absurd h.symm D
   ·exact mem_cons_of_mem _ (jz (x:=x) h)
theorem gU {b:Nat} {y:AObj}:∀{σ:Store} {q:Nat×AObj},q∈σ->q.1≠b->q∈σ.set b y
 |[],q,h,_=>by cases h
 |(k,z)::σ,q,h,hq=>by
  simp only[Store.set]
  rcases mem_cons.1 h with rfl|h
  ·rw[if_neg hq];simp
  ·split
   ·exact mem_cons_of_mem _ h
   ·exact mem_cons_of_mem _ (gU h hq)
theorem set_subN {σ:Store} {b:Nat} {x:AObj} (I:b∈σ.keys):SubN ((b,x)::σ.erase (some b)) (σ.set b x):=by
 refine⟨λq D=>?_,λF=>?_⟩
 ·rcases mem_cons.1 D with rfl|D
  ·exact jz (x:=x) I
  ·have E:=mem_filter.1 D
   exact gU E.1 (by simpa using E.2)
 ·rw[dk]at F
  simp only[Store.keys,map_cons,nodup_cons]
  exact⟨cx σ b,(bV σ (some b)).2 F⟩
def WS (σ:Store) (e:TypeId) (sz:Nat) (xv:AV) (rows:List (List AV)) (g:Option Nat):Prop:=
 (rows=[]/\g=none/\(xv= .nil\/∃v,xv= .sc v/\rF v))\/
 ∃b cap pad,g=some b/\xv= .sc (.slice (some ⟨b,0,none⟩) rows.length cap)/\σ.get b=some (.cells e (rows.flatten++pad))/\(∀r∈rows,r.length=sz)/\(rows.flatten++pad).length=cap*sz/\rows.length<=cap/\cap<=maxLen
section
variable {G:Glob} {P:Program} {σ ρ:Store} {w:World} {env:Env} {K:AV->Store->Prop}
theorem RepL.any:∀(τ:Store) (w:World) (us:List Value),RepL τ w (List.replicate us.length .any) us
 |_,_,[]=>by simp[RepL]
 |τ,w,u::us=>by simp only[length_cons,replicate_succ,RepL];exact⟨u,us,rfl,by simp only[Rep],RepL.any τ w us⟩
theorem nH {t tx ty e e':TypeId} {i:TypeInfo} {z:List AV} {x y:Operand} {rows ys:List (List AV)} {g:Option Nat} {xv:AV}
  (hu:P.underlying t=some (.slice e)) (hk:P.underlying tx=some (.slice e')) (hi:P.info? e=some i) (hz:cK P e=some z) (fl:z.length=i.size) (eg:i.size≠0) (dc:i.bytes≠0)
  (e7:(SOpd.of x).eval G env=xv) (hW:WS σ e i.size xv rows g) (e9:srcX i.size ((SOpd.of y).eval G env) λl=>l=ys) (aw:(rows.length+ys.length)*i.bytes<=140737488355328)
  (ds:rows=[]->ys=[]->K xv σ)
  (bu:∀b cap pad,b∉(σ.erase g).keys->(rows++ys).length<=cap->cap<=maxLen->(∀r∈rows++ys,r.length=i.size)->((rows++ys).flatten++pad).length=cap*i.size->
   K (.sc (.slice (some ⟨b,0,none⟩) (rows++ys).length cap)) ((b,.cells e ((rows++ys).flatten++pad))::σ.erase g)):RAW G P (.call (.mk (.builtin .append) #[x,y] #[t,tx])) env σ K ⟨⟩:=by
 intro ρ w a o ho hS hE
 have X:=ao (G:=G) hS hE x
 have hy:=ao (G:=G) hS hE y
 rw[e7]at X
 obtain⟨i',zv,bq,ef,eb,ea⟩:=cG (τ:=σ++ρ) (w:=w) hz
 rw[hi]at bq;cases bq
 have d0:zv.cells.size=i.size:=by have:=eb.length;simp at this;omega
 have bh:∀{v:Value} {w':World},(Builtin.append_ #[t,tx] o.type #[a.eval x,a.eval y]).run P w= .ok v w'->(execOp a.eval o).run P w= .ok (.value v) w':=by
  intro v w' J
  simp[execOp,ho,resolve,invoke,builtin,J]
 obtain⟨D,V,rfl,E,cm,bi⟩:=srcX_ok hk hy e9
 have be:=E.newsLen
 have T:rows.length+D.length<=maxLen:=by
  have:=Nat.le_mul_of_pos_right (rows.length+D.length) (Nat.pos_of_ne_zero dc)
  unfold maxLen;omega
 have N:(rows++D).length=rows.length+D.length:=by simp
 have grow:∀(F:Option Addr) (cap:Nat) (I:List Value),a.eval x= .slice F rows.length cap->I.length=rows.length*i.size->RepL (σ++ρ) w rows.flatten I->(∀v∈I,v.oneCell'=true)->(∀r∈rows,r.length=i.size)->
   (Builtin.firstCells i.size rows.length (.slice F rows.length cap)).run P w.drew= .ok I.toArray w.drew->cap<rows.length+D.length->
   ∃v w' r σ',((execOp a.eval o).run P w= .ok (.value v) w'\/(execOp a.eval o).run P w= .ok .skip w'/\v=undef)/\K r σ'/\Sat G (σ'++ρ) w'/\Ev σ w σ' w'/\Rep (σ'++ρ) w' r v:=by
  intro F cap I Y ba e4 e3 an dd bx
  have J:=run_append_grow_src (P:=P) w t tx o.type e i zv hu hi ef F rows.length cap I dd (a.eval y) D.length V E bx (by unfold maxLen at T;omega) (growslice_fits bx aw)
  rw[←Y]at J
  have bp:=grownCap_ge w (rows.length+D.length) cap e
  have bm:=grownCap_le_maxLen w (rows.length+D.length) cap e T
  generalize grownCap w (rows.length+D.length) cap e=c2 at J bp bm
  let C:Array Value:=(I++V).toArray++Builtin.zeroCells zv.cells (c2-(rows.length+D.length))
  have ew:C.size=c2*i.size:=by
   simp only[C,Array.size_append,size_toArray,length_append,ba,be,size_zeroCells,d0,←Nat.add_mul]
   congr 1;omega
  have d4:w.heap.size∉(σ.erase g).keys:=λhm=>Nat.lt_irrefl _ (hS.lt_left (ct (bV σ g).1 hm))
  let Z:=(Builtin.zeroCells zv.cells (c2-(rows.length+D.length))).toList
  have bd:∀r∈rows++D,r.length=i.size:=λr J=>by rcases mem_append.1 J with J|J<;>first|exact an r J|exact bi r J
  have ah:=au _ bd
  have e0:=bu w.heap.size c2 (List.replicate Z.length .any) d4 (by rw[N];exact bp) bm bd (by
   have:Z.length=(c2-(rows.length+D.length))*i.size:=by simp[Z,size_zeroCells,d0]
   rw[length_append,ah,length_replicate,this,N,←Nat.add_mul]
   congr 1;omega)
  have s1:Sat G (σ.erase g++ρ) w:=hS.subN (bV σ g)
  have s2:Sat G (σ.erase g++ρ) w.drew:=s1.step Ev.drew s1.nodup_left (λb hb=>.inl hb) (λb q hq=>(s1.obj b q (mem_append.2 (.inl hq))).keep Ev.drew rfl)
  have d1:Ev σ w (σ.erase g) w.drew:=(Ev.of_sub (bV σ g).1 w).trans Ev.drew
  have d2:Ev (σ.erase g) w.drew ((w.heap.size,.cells e ((rows++D).flatten++List.replicate Z.length .any))::σ.erase g) (w.drew.alloc (.cells C e)):=Ev.alloc (σ:=σ.erase g) (w:=w.drew) _ _
  have ev:=d1.trans d2
  have s3:=s2.alloc (.cells C e) (.cells e ((rows++D).flatten++List.replicate Z.length .any)) ⟨C,heap_alloc_new w.drew _,by
    intro v Y
    simp only[C,Array.toList_append,mem_append]at Y
    rcases Y with(Y|Y)|Y
    ·exact e3 v Y
    ·exact E.one v Y
    ·exact ea _ (cv Y),by
    have h9:=RepL.append (RepL.ev ev _ _ e4) (RepL.ev ev _ _ cm)
    rw[←flatten_append]at h9
    have d3:=RepL.append h9 (RepL.any _ _ Z)
    rw[show C.toList=I++V++Z by simp only[C,Z,Array.toList_append]]
    exact d3⟩
  exact⟨_,_,_,_,.inl (bh J),e0,s3,ev,by simp only[Rep];rw[N]⟩
 rcases hW with⟨rfl,rfl,hW⟩|⟨b,cap,pad,rfl,rfl,hg,an,ah,ex,bn⟩
 ·by_cases hm:D.length=0
  ·have e8:D=[]:=eq_nil_of_length_eq_zero hm
   subst e8
   have J:(Builtin.append_ #[t,tx] o.type #[a.eval x,a.eval y]).run P w= .ok (a.eval x) w:=by
    rcases hW with rfl|⟨v,rfl,rfl|⟨ad,rfl⟩⟩
    ·simp only[Rep]at X
     rw[X];exact dW hu hi E
    ·simp only[Rep]at X
     rw[X];exact dW hu hi E
    ·simp only[Rep]at X
     rw[X]
     have e2:V=[]:=eq_nil_of_length_eq_zero (by rw[be];simp)
     subst e2
     have bl:=E.cells
     simp only[length_nil]at bl
     rcases E.kind with⟨el,bs⟩|bs<;>simp[Builtin.append_,run_underlying hu,run_underlying bs,sizeOf,typeInfo,hi,E.len,bl,storeCells]
   exact⟨_,_,_,_,.inl (bh J),ds rfl rfl,hS,Ev.refl σ w,X⟩
  ·have O:∃F,a.eval x= .slice F 0 0:=by
    rcases hW with rfl|⟨v,rfl,rfl|⟨ad,rfl⟩⟩<;>simp only[Rep]at X<;>exact⟨_,X⟩
   obtain⟨F,O⟩:=O
   refine grow F 0 [] O (by simp) (by simp[RepL]) (by simp) (by simp) ?_ (by simp;omega)
   cases F with
   |none=>simp[Builtin.firstCells]
   |some ad=>exact run_firstCells_some w.drew i.size 0 ad 0 0 [] (by simp) (by simp)
 ·simp only[Rep]at X
  have hm:=Store.get_mem hg
  have bw:b∈σ.keys:=mem_map.2 ⟨_,hm,rfl⟩
  have al:=au _ an
  by_cases M:rows.length+D.length<=cap
  ·have ac:rows.length*i.size+D.flatten.length<=(rows.flatten++pad).length:=by
    rw[ah,au _ bi,←Nat.add_mul];exact Nat.mul_le_mul_right _ M
   obtain⟨vs,hh,e5,bo,bk⟩:=hS.setRow hg cm E.one (off:=rows.length*i.size) ac
   have J:=dX (P:=P) (ty:=o.type) hu hi hh E M (by rw[e5,ah,be,←Nat.add_mul];exact Nat.mul_le_mul_right _ M)
   rw[←X]at J
   have e1:aH (rows.flatten++pad) (rows.length*i.size) D.flatten=(rows++D).flatten++pad.drop D.flatten.length:=by
    rw[aY _ _ _ ac,←al,take_append_of_le_length (Nat.le_refl _),take_length,flatten_append]
    congr 1
    rw[drop_append]
    simp
   rw[e1]at bo bk
   have cw:=set_subN (x:=AObj.cells e ((rows++D).flatten++pad.drop D.flatten.length)) bw
   refine⟨_,_,_,_,.inl (bh J),bu b cap (pad.drop D.flatten.length) (cx σ b) (by rw[N];exact M) bn (λr J=>by rcases mem_append.1 J with J|J<;>first|exact an r J|exact bi r J) ?_,bk.subN cw,bo.trans (Ev.of_sub cw.1 _),by simp only[Rep];rw[N]⟩
   ·rw[flatten_append,length_append,length_append,length_drop]
    rw[length_append]at ah ac
    omega
  ·obtain⟨vs,hh,ch,bb⟩:=hS.obj b _ (mem_append.2 (.inl hm))
   have e6:=bb.length
   have cp:=RepL.take rows.flatten.length bb
   rw[take_append_of_le_length (Nat.le_refl _),take_length]at cp
   have ba:(vs.toList.take rows.flatten.length).length=rows.length*i.size:=by rw[length_take,e6,←al,length_append];omega
   refine grow (some ⟨b,0,none⟩) cap (vs.toList.take rows.flatten.length) X ba cp (λv Y=>ch v (mem_of_mem_take Y)) an (run_firstCells_some w.drew i.size rows.length _ _ _ _ ba ?_) (by omega)
   intro j v hj
   rw[add_lit,Nat.zero_add]
   have dl:vs.toList[j]? =some v:=by rw[getElem?_take]at hj;split at hj;exact hj;cases hj
   have:w.drew.cell? ⟨b,j,none⟩=w.cell? ⟨b,j,none⟩:=rfl
   rw[this,cell_of_row w b j vs e (0,0) hh]
   simpa using dl
theorem oW {op:Op} {t:Tag K} (σf σr:Store) (F:SubN (σf++σr) σ) (h:RAW G P op env σf (λr σ'=>(σ'++σr:Store).keys.Nodup->K r (σ'++σr)) ⟨⟩):RAW G P op env σ K t:=by
 intro ρ w a o T O N
 have E:Sat G (σf++(σr++ρ)) w:=by have:=O.subN F;rwa [append_assoc]at this
 obtain⟨v,w',r,σ',I,J,V,M,X⟩:=h (σr++ρ) w a o T E (λj=>by
  have:=Rep.ev (Ev.of_sub F.1 w) _ _ (N j)
  rwa [append_assoc]at this)
 have D:Sat G ((σ'++σr)++ρ) w':=by rwa [append_assoc]
 exact⟨v,w',r,σ'++σr,I,J D.nodup_left,D,M.frame F.1,by rwa [append_assoc]⟩
theorem fV {t e:TypeId} {n:Nat} (V:P.underlying t=some (.slice e)) (O:(P.info? e).map (·.size)=some n) (N:∀v,rF v->K (.sc v) σ):RAW G P (.buildSlice t 0 #[]) env σ K ⟨⟩:=by
 intro ρ w a o T E X
 obtain⟨i,hi,_⟩:=Option.map_eq_some_iff.1 O
 have D:Ev σ w σ (w.alloc (.cells #[] e)):=Ev.alloc0 _
 have I:∀b x,(b,x)∈σ++ρ->b<w.heap.size:=λb x F=>(E.obj b x F).lt
 refine⟨.slice (some ⟨w.heap.size,0,none⟩) 0 0,w.alloc (.cells #[] e),.sc (.slice (some ⟨w.heap.size,0,none⟩) 0 0),σ,.inl ?_,N _ (.inr ⟨_,rfl⟩),?_,D,by simp only[Rep]⟩
 ·have J:(Array.range 0).map (λ_=>(default:Value))=#[]:=by apply Array.ext';simp
  simp[execOp,T,Instr.buildSlice,run_underlying V,sizeOf,typeInfo,hi,Instr.fill,newRow,J]
 ·exact E.step D E.nodup_left (λb M=>.inl M) (λb x F=>(E.obj b x (mem_append.2 (.inl F))).keep D (Below.heap_alloc _ _ b (I b x (mem_append.2 (.inl F)))))
/-! ### from now on no one writes -/
def fI (e:TypeId) (sz:Nat) (rows:List (List AV)) (D:Option Addr) (cap:Nat) (σ:Store):Prop:=
 (rows=[]/\cap=0/\σ=[])\/
 ∃b pad,D=some ⟨b,0,none⟩/\σ=[(b,.cells e (rows.flatten++pad))]/\rows.length<=cap/\cap<=maxLen/\(∀r∈rows,r.length=sz)/\(rows.flatten++pad).length=cap*sz
def bD (e:TypeId) (sz:Nat) (rows:List (List AV)) (v:AV) (σ:Store):Prop:=∃D cap,v= .sc (.slice D rows.length cap)/\fI e sz rows D cap σ
theorem fI.freeze {e:TypeId} {sz:Nat} {rows:List (List AV)} {D:Option Addr} {cap:Nat} {N σ':Store} {u:Value} (h:fI e sz rows D cap N) (Z:Sat G (σ'++ρ) w) (M:Sub N σ') (hr:u= .slice D rows.length cap):Rep ρ w (.lst sz rows) u:=by
 rcases h with⟨rfl,rfl,rfl⟩|⟨b,pad,rfl,rfl,T,O,X,ac⟩
 ·subst hr
  simp only[Rep]
  cases D with
  |none=>exact .inl ⟨rfl,trivial⟩
  |some ad=>exact .inr ⟨ad,0,rfl,Nat.le_refl _,Nat.zero_le _,by simp only[ar]⟩
 ·have hm:(b,AObj.cells e (rows.flatten++pad))∈σ':=M _ (by simp)
  obtain⟨vs,hh,J,E⟩:=Z.obj b _ (mem_append.2 (.inl hm))
  simp only[Rep]
  refine .inr ⟨_,cap,hr,T,O,ar.of_flat X (RepAt.of_get λj hj=>?_)⟩
  rw[Nat.zero_mul,Nat.zero_add,add_lit,Nat.zero_add]
  have Y:=E.length
  have F:j<vs.toList.length:=by rw[Y,length_append];omega
  have hg:=E.get j (by rw[length_append];omega) F
  rw[getElem_append_left hj]at hg
  refine⟨vs.toList[j],⟨?_,?_⟩,J _ (getElem_mem F),Rep.sub (λq hq=>mem_append.2 (.inr hq)) hg⟩
  ·rw[cell_of_row w b j vs e (0,0) hh]
   simp
  ·intro V
   have hk:=V.of_key
   have I:=Z.nodup
   rw[az]at I
   exact(nodup_append.1 I).2.2 b (mem_map.2 ⟨_,hm,rfl⟩) b hk rfl
theorem bD.freeze {e:TypeId} {sz:Nat} {rows:List (List AV)} {v:AV} {E σ':Store} {u:Value} (h:bD e sz rows v E) (J:Sat G (σ'++ρ) w) (D:Sub E σ') (I:Rep (σ'++ρ) w v u):Rep ρ w (.lst sz rows) u:=by
 obtain⟨F,cap,rfl,h⟩:=h
 simp only[Rep]at I
 exact h.freeze J D I
def FrzL (σ:Store):List AV->List AV->Prop
 |[],[]=>True
 |x::xs,y::ys=>(x=y\/∃e sz rows D,bD e sz rows x D/\Sub D σ/\y= .lst sz rows)/\FrzL σ xs ys
 |_,_=>False
theorem FrzL.rep {σ':Store} (F:Sat G (σ'++ρ) w):∀{xs ys:List AV} {us:List Value},FrzL σ' xs ys->RepL (σ'++ρ) w xs us->RepL ρ w ys us
 |[],[],us,_,h=>by simpa[RepL]using h
 |x::xs,y::ys,us,hf,h=>by
  simp only[RepL]at h ⊢
  obtain⟨u,D,rfl,E,I⟩:=h
  refine⟨u,D,rfl,?_,FrzL.rep F hf.2 I⟩
  rcases hf.1 with rfl|⟨e,sz,rows,O,J,N,rfl⟩
  ·exact Rep.sub (λq M=>mem_append.2 (.inr M)) E
  ·exact J.freeze F N E
 |[],_::_,_,h,_=>h.elim
 |_::_,[],_,h,_=>h.elim
theorem ag.freeze {k:FuncId} {args ys:List AV} (h:ag G P k args [] (λr σ=>∃xs,r= .agg xs/\FrzL σ xs ys)):Pure G P k args (.agg ys):=
 ⟨h.1,λρ w vs V O=>(h.2 ρ w vs V O).mono λe w' ⟨v,r,σ',X,⟨xs,Y,T⟩,E,F,D⟩=>by
  subst Y
  refine⟨v,.agg ys,[],X,⟨rfl,rfl⟩,E.subN (SubN.nil _),F.trans (Ev.of_sub (SubN.nil _).1 _),?_⟩
  simp only[Rep]at D ⊢
  obtain⟨I,J,M,N⟩:=D
  exact⟨I,J,M,by simpa using FrzL.rep E T N⟩⟩
end
/-! ### stores put together -/
theorem ak {σ τ:Store} {b:Nat} (h:b∉σ.keys):Store.get (σ++τ) b=Store.get τ b:=by
 induction σ with
 |nil=>rfl
 |cons p σ ih=>
  obtain⟨k,x⟩:=p
  simp only[Store.keys,map_cons,mem_cons,not_or]at h
  simp only[cons_append,Store.get,if_neg (Ne.symm h.1)]
  exact ih h.2
theorem am {σ τ:Store} {b:Nat} {y:AObj} (h:b∉σ.keys):Store.set (σ++τ) b y=σ++Store.set τ b y:=by
 induction σ with
 |nil=>rfl
 |cons p σ ih=>
  obtain⟨k,x⟩:=p
  simp only[Store.keys,map_cons,mem_cons,not_or]at h
  simp only[cons_append,Store.set,if_neg (Ne.symm h.1)]
  rw[ih h.2]
theorem SubN.perm {σ' σ:Store} (h:List.Perm σ' σ):SubN σ' σ:=
 ⟨λq E=>h.mem_iff.1 E,λD=>by unfold Store.keys at*;exact(h.map Prod.fst).nodup_iff.2 D⟩
theorem SubN.trans {a b c:Store} (h:SubN a b) (k:SubN b c):SubN a c:=⟨λq E=>k.1 q (h.1 q E),λD=>h.2 (k.2 D)⟩
theorem SubN.appL {σ τ:Store}:SubN σ (σ++τ):=by
 refine⟨λq E=>mem_append.2 (.inl E),λD=>?_⟩
 rw[az]at D
 exact(nodup_append.1 D).1
theorem SubN.appR {σ τ:Store}:SubN τ (σ++τ):=by
 refine⟨λq E=>mem_append.2 (.inr E),λD=>?_⟩
 rw[az]at D
 exact(nodup_append.1 D).2.1
theorem SubN.app {a b c:Store} (h:SubN b c):SubN (a++b) (a++c):=by
 refine⟨λq D=>?_,λE=>?_⟩
 ·rcases mem_append.1 D with D|D
  ·exact mem_append.2 (.inl D)
  ·exact mem_append.2 (.inr (h.1 q D))
 ·rw[az]at E ⊢
  obtain⟨J,M,N⟩:=nodup_append.1 E
  exact nodup_append.2 ⟨J,h.2 M,λx F y I=>N x F y (ct h.1 I)⟩
/-! ### rows in a block -/
theorem jk {sz:Nat}:∀{rows:List (List AV)} {pad:List AV} {i:Nat},(∀r∈rows,r.length=sz)->(h:i<rows.length)->((rows.flatten++pad).drop (i*sz)).take sz=rows[i]
 |[],_,_,_,h=>by simp at h
 |r::rows,pad,0,hr,_=>by
  have:=hr r (by simp)
  simp[←this]
 |r::rows,pad,i+1,hr,h=>by
  have D:=hr r (by simp)
  rw[flatten_cons,append_assoc,drop_append,drop_of_length_le (by rw[D,Nat.add_mul];omega),nil_append,show(i+1)*sz-r.length=i*sz by rw[D,Nat.add_mul];omega]
  exact jk (λq E=>hr q (mem_cons_of_mem _ E)) (by simpa using h)
theorem oX {l m:List AV} {o:Nat} {c:List AV} (h:o+c.length<=l.length):aH (l++m) o c=aH l o c++m:=by
 rw[aY _ _ _ h,aY _ _ _ (by simp;omega),take_append_of_le_length (by omega),drop_append_of_le_length h,append_assoc,append_assoc,append_assoc]
theorem kj {l:List AV} {o:Nat} {c:List AV} (h:o+c.length<=l.length):(aH l o c).length=l.length:=by
 rw[aY _ _ _ h];simp;omega
theorem dS {sz:Nat} {c:List AV} {off:Nat} (N:off+c.length<=sz):∀{rows:List (List AV)} {pad:List AV} {i:Nat},(∀r∈rows,r.length=sz)->(h:i<rows.length)->
  aH (rows.flatten++pad) (i*sz+off) c=(rows.set i (aH rows[i] off c)).flatten++pad
 |[],_,_,_,h=>by simp at h
 |r::rows,pad,0,hr,_=>by
  have E:=hr r (by simp)
  simp only[Nat.zero_mul,Nat.zero_add,flatten_cons,append_assoc,set_cons_zero,getElem_cons_zero]
  rw[oX (by omega)]
 |r::rows,pad,i+1,hr,h=>by
  have E:=hr r (by simp)
  have M:i<rows.length:=by simpa using h
  have ih:=dS N (pad:=pad) (λq J=>hr q (mem_cons_of_mem _ J)) M
  have F:=au rows (λq J=>hr q (mem_cons_of_mem _ J))
  have I:i*sz+off+c.length<=(rows.flatten++pad).length:=by
   have:=Nat.mul_le_mul_right sz (show i+1<=rows.length from M)
   rw[Nat.add_mul]at this
   rw[length_append,F];omega
  rw[aY _ _ _ I]at ih
  have D:(i+1)*sz+off+c.length<=(r++(rows.flatten++pad)).length:=by rw[length_append,E,Nat.add_mul];omega
  rw[flatten_cons,append_assoc,aY _ _ _ D]
  simp only[set_cons_succ,getElem_cons_succ,flatten_cons,append_assoc]
  rw[←ih]
  have e:(i+1)*sz+off=r.length+(i*sz+off):=by rw[E,Nat.add_mul];omega
  rw[e,Nat.add_assoc,take_length_add_append,drop_length_add_append]
  simp[append_assoc]
end Go.Av
