/-
  ABSTRACT VALUES, 21: rows of bytes; rows that are made, copied into, turned into strings.
-/
import Derived.Test.YtjdccoplpljmlaaGreatDoorVXAv16toXAv20
import Derived.Laws.IdiomStrings
import Derived.Laws.CopyRow
import Derived.Laws.MakeOwn
import Derived.Laws.OwnMore
import Derived.Lib.BufferRead
import Derived.MapKept
import Derived.Carry
namespace Go.Av
open Go Go.RowKit List
set_option linter.unusedSimpArgs false
set_option linter.unusedVariables false
def dK (t:List UInt8):List (List AV):=t.map λc=>[.int .u8 c.toNat]
theorem fe (t:List UInt8):(dK t).length=t.length:=by simp[dK]
theorem dm (σ:Store):Store.erase σ none=σ:=rfl
theorem lB (x:Nat):Store.erase [] (some x)=[]:=rfl
theorem fh (k x:Nat) (o:AObj) (σ:Store):Store.erase ((k,o)::σ) (some x)=if k=x then Store.erase σ (some x)else (k,o)::Store.erase σ (some x):=by
 by_cases h:k=x<;>simp[Store.erase,h]
section
variable {G:Glob} {P:Program}
theorem mm {τ:Store} {w:World} {b:Nat} {l:List UInt8} (h:∀j (E:j<l.length),w.cell? ⟨b,j,none⟩=some (.int .u8 l[j].toNat)/\¬Mut τ b j):az τ w ⟨b,0,none⟩ 1 0 (dK l):=by
 refine az.of_get λj E=>?_
 rw[fe]at E
 have e:(dK l)[j]'(by rw[fe];exact E)=[.int .u8 (l[j]).toNat]:=by simp[dK]
 rw[e]
 refine⟨rfl,?_⟩
 simp only[RepAt]
 refine⟨⟨.int .u8 l[j].toNat,?_,rfl,by simp only[Rep]⟩,trivial⟩
 rw[add_lit]
 simpa[jh]using h j E
theorem Sat.setRow {σ ρ:Store} {w:World} {b off:Nat} {e:TypeId} {cs c:List AV} {us:List Value} (M:Sat G (σ++ρ) w) (hg:σ.get b=some (.cells e cs)) (r1:RepL (σ++ρ) w c us) (r2:∀v∈us,v.oneCell'=true)
  (ac:off+c.length<=cs.length):
  ∃vs,w.heap[b]? =some (.cells vs e (0,0))/\vs.size=cs.length/\Ev σ w (σ.set b (.cells e (splice cs off c))) (w.setRow b (vs.toList.take off++us++vs.toList.drop (off+us.length)).toArray)/\
   Sat G (σ.set b (.cells e (splice cs off c))++ρ) (w.setRow b (vs.toList.take off++us++vs.toList.drop (off+us.length)).toArray):=by
 have X:=Store.get_mem hg
 obtain⟨vs,N,V,Y⟩:=M.obj b _ (mem_append.2 (.inl X))
 have Z:=Y.length
 have l2:=r1.length
 have I:((vs.toList.take off++us++vs.toList.drop (off+us.length)).toArray).size=vs.size:=by simp at Z l2 ⊢;omega
 have E:Ev σ w (σ.set b (.cells e (splice cs off c))) (w.setRow b (vs.toList.take off++us++vs.toList.drop (off+us.length)).toArray):=Ev.setRow X N I
 refine⟨vs,N,by simpa using Z,E,?_⟩
 have J:=M.nodup_left
 refine M.step E (by rw[dj];exact J) (λk hk=>.inl (by rwa [dj]at hk)) ?_
 intro k z T
 rcases jx T J with⟨rfl,rfl⟩|⟨O,T⟩
 ·refine⟨_,setRow_heap w k vs _ e (0,0) N,?_,?_⟩
  ·intro v F
   simp only[mem_append]at F
   rcases F with(F|F)|F
   ·exact V v (mem_of_mem_take F)
   ·exact r2 v F
   ·exact V v (mem_of_mem_drop F)
  ·have q1:=RepL.ev E _ _ Y
   have q2:=RepL.ev E _ _ r1
   have e1:=aR cs off c (by omega)
   generalize (σ.set k (.cells e (splice cs off c))++ρ:Store)=τ' at*
   generalize w.setRow k _=w2 at*
   rw[e1]
   rw[l2]
   exact RepL.append (RepL.append (RepL.take _ q1) q2) (RepL.drop _ q1)
 ·exact(M.obj k z (mem_append.2 (.inl T))).keep E (setRow_other w b k _ O)
theorem l5 {I dst elem:TypeId} {i:Nat} {l:List UInt8} {env:Env} {σ:Store} {K:AV->Store->Prop} (hi:env.get i= .str l) (ac:l.length<1000000000)
  (hs:P.underlying I=some .string) (hd:P.underlying dst=some (.slice elem)) (he:P.underlying elem=some (.int .u8)) (hk:K (.lst 1 (dK l)) σ):RAW G P (.convert I dst (.tmp i)) env σ K ⟨⟩:=by
 intro ρ w a op ho N hE
 have O:=hE i
 rw[hi]at O
 simp only[Rep]at O
 have e3:a.eval (.tmp i)= .string ⟨⟨l⟩⟩:=O
 have E:=run_bytes_of_string (P:=P) w I dst elem ⟨⟨l⟩⟩ hs hd he
 have Y:=grownCap_ge w l.length 0 elem
 have V:=grownCap_le_maxLen w l.length 0 elem (by unfold maxLen;omega)
 generalize X:grownCap w l.length 0 elem=cp at*
 have Z:(⟨⟨l⟩⟩:ByteArray).size=l.length:=rfl
 rw[Z]at E
 rw[X]at E
 have F:Ev σ w σ (w.drew.alloc (.cells (bytesRow ⟨⟨l⟩⟩ cp) elem ((bytesRow ⟨⟨l⟩⟩ cp).size,(bytesRow ⟨⟨l⟩⟩ cp).size+1))):=Ev.trans Ev.drew (Ev.alloc0 _)
 have M:∀b x,(b,x)∈σ++ρ->b<w.heap.size:=λb x J=>(N.obj b x J).lt
 refine⟨_,_,.lst 1 (dK l),σ,.inl (by simp[execOp,ho,e3,E];rfl),hk,?_,F,?_⟩
 ·refine N.step F N.nodup_left (λb T=>.inl T) (λb x J=>(N.obj b x (mem_append.2 (.inl J))).keep F ?_)
  exact Below.heap_alloc _ _ b (M b x (mem_append.2 (.inl J)))
 ·simp only[Rep]
  right
  rw[fe]
  refine⟨_,_,rfl,Y,V,mm λj hj=>⟨?_,?_⟩⟩
  ·have T:(w.drew.alloc (.cells (bytesRow ⟨⟨l⟩⟩ cp) elem ((bytesRow ⟨⟨l⟩⟩ cp).size,(bytesRow ⟨⟨l⟩⟩ cp).size+1))).heap[w.heap.size]? =some (.cells (bytesRow ⟨⟨l⟩⟩ cp) elem ((bytesRow ⟨⟨l⟩⟩ cp).size,(bytesRow ⟨⟨l⟩⟩ cp).size+1)):=by
    show(w.heap.push _)[w.heap.size]? =_
    simp
   simp only[World.cell?,T]
   have:=bytesRow_at ⟨⟨l⟩⟩ cp j hj
   simpa using this
  ·rintro⟨x,J,_⟩
   exact Nat.lt_irrefl _ (M _ _ J)
theorem lc {z:Array Value} {n:Nat} {v:Value} (F:0<z.size) (h:v∈(madeCells z n).toList):v∈z.toList:=by
 unfold madeCells at h
 simp only[Array.toList_map,mem_map]at h
 obtain⟨i,hi,rfl⟩:=h
 have E:=Nat.mod_lt i F
 rw[getElem!_pos z (i % z.size) E]
 simp
end
section
variable {G:Glob}
end
section
theorem av {x:Int} (E: -9223372036854775808<=x) (F:x<9223372036854775808):IntKind.i64.wrap x=x:=by
 have:=IntWalk.i64_in x ⟨E,by omega⟩
 exact this
theorem natBeq (n:Nat):(n==n)=true:=by simp
set_option linter.defProp false
def EV5:=(AI (AI (AI (AI (AI @List.contains_cons.{0} @List.contains_nil.{0}) (AI @Bool.or_false @Bool.false_or)) (AI (AI @Bool.or_true @Bool.true_or) (AI @Bool.not_true (AI @Bool.not_false @List.map_cons.{0,0})))) (AI (AI (AI @List.map_nil.{0,0} @retQ_ret) (AI @ns @RX_nil)) (AI (AI @RX_tmp @RX_cell) (AI @one_nil (AI @one_one @one_two))))) (AI (AI (AI (AI @ot @nr) (AI @List.length_cons.{0} @List.length_nil.{0})) (AI (AI @List.cons_append.{0} @List.nil_append.{0}) (AI @List.drop_succ_cons.{0} (AI @List.drop_zero.{0} @List.drop_nil.{0})))) (AI (AI (AI @List.take_succ_cons.{0} @List.take_zero.{0}) (AI @List.headD_cons.{0} @true_and)) (AI (AI @and_true @Nat.le_refl) (AI @List.getD_cons_zero.{0} (AI @List.getD_cons_succ.{0} @natBeq))))))
def EV6:=(AI (AI (AI (AI @decide_true @decide_false) (AI @Nat.zero_add @Nat.mul_one)) (AI (AI @Int.cast_ofNat_Int @Int.toNat_zero) (AI @Bool.true_eq_false @Bool.false_eq_true))) (AI (AI (AI @not_true_eq_false @not_false_eq_true) (AI @av @ne_eq)) (AI (AI @Option.map_some @Bool.true_and) (AI @Bool.and_true (AI @Bool.false_and @Bool.and_false)))))
end
structure MapK (P:Program) (kT:TypeId) {κ:Type} [DecidableEq κ] (val:κ->Value):Prop where
 ck:∀(em:Bool) (k:κ) (w:World),(Instr.checkKey em 10000 kT (val k)).run P w= .ok () w
 find:∀(k:κ) (ks:List κ) (ents:List MapEntry) (w:World),ents.map (·.key)=ks.map val->
  (Instr.findKey kT (val k) ents).run P w= .ok (((ks.zip ents).zipIdx.find? λq=>decide (q.1.1=k)).map λq=>(q.2,q.1.2.val)) w
 stays:∀(k:κ) (w:World),(Instr.keyThatStays (val k) (val k)).run P w= .ok (val k) w
def aN {κ:Type} [DecidableEq κ] (k:κ):List (κ×AV)->Option AV
 |[]=>none
 |p::l=>if p.1=k then some p.2 else aN k l
def bu {κ:Type} [DecidableEq κ] (k:κ) (x:AV):List (κ×AV)->List (κ×AV)
 |[]=>[(k,x)]
 |p::l=>if p.1=k then (p.1,x)::l else p::bu k x l
def bB {κ:Type} (val:κ->Value) (l:List (κ×AV)):List (Value×AV):=l.map λp=>(val p.1,p.2)
section
variable {G:Glob} {P:Program} {env:Env} {σ:Store} {K:AV->Store->Prop} {κ:Type} [DecidableEq κ] {kT:TypeId} {val:κ->Value}
theorem gP {α:Type} (p:α->Bool):∀(l:List α) (n:Nat),((l.zipIdx (n+1)).find? λq=>p q.1)=((l.zipIdx n).find? λq=>p q.1).map λq=>(q.1,q.2+1)
 |[],n=>rfl
 |a::l,n=>by
  simp only[zipIdx_cons,find?_cons]
  cases h:p a with
  |true=>simp
  |false=>simp only[];exact gP p l (n+1)
theorem kX {τ:Store} {w:World} (k:κ):∀(l:List (κ×AV)) (ents:List MapEntry),ents.map (·.key)=(l.map λp=>val p.1)->RepL τ w (l.map (·.2)) (ents.map (·.val))->
  (aN k l=none/\(((l.map (·.1)).zip ents).zipIdx.find? λq=>decide (q.1.1=k))=none)\/
  ∃x i e,aN k l=some x/\(((l.map (·.1)).zip ents).zipIdx.find? λq=>decide (q.1.1=k))=some ((k,e),i)/\ents[i]? =some e/\Rep τ w x e.val/\e.key=val k/\
   (∀v y,Rep τ w y v->RepL τ w ((bu k y l).map (·.2)) ((ents.modify i λe=>{e with key:=val k,val:=v}).map (·.val))/\(ents.modify i λe=>{e with key:=val k,val:=v}).map (·.key)=(bu k y l).map λp=>val p.1)
 |[],ents,hk,hr=>.inl ⟨rfl,by simp⟩
 |p::l,[],hk,hr=>by simp at hk
 |p::l,e::ents,hk,hr=>by
  simp only[map_cons,List.cons.injEq]at hk
  simp only[map_cons,RepL]at hr
  obtain⟨u,us,J,N,O⟩:=hr
  injection J with J h1'
  subst J h1'
  by_cases E:p.1=k
  ·right
   subst E
   refine⟨p.2,0,e,by simp[aN],by simp[zipIdx_cons],rfl,N,hk.1,λv y M=>?_⟩
   simp only[bu,if_true,modify_zero_cons,map_cons,RepL]
   exact⟨⟨v,_,rfl,M,O⟩,by rw[hk.2]⟩
  ·rcases kX k l ents hk.2 O with⟨F,I⟩|⟨x,i,e',F,I,T,V,X,Y⟩
   ·left
    refine⟨by simp[aN,E,F],?_⟩
    simp only[map_cons,zip_cons_cons,zipIdx_cons,find?_cons,E,decide_false]
    have:=gP (λq:κ×MapEntry=>decide (q.1=k)) ((l.map (·.1)).zip ents) 0
    rw[Nat.zero_add]at*
    rw[this,I];rfl
   ·right
    refine⟨x,i+1,e',by simp[aN,E,F],?_,by simpa using T,V,X,λv y M=>?_⟩
    ·simp only[map_cons,zip_cons_cons,zipIdx_cons,find?_cons,E,decide_false]
     have:=gP (λq:κ×MapEntry=>decide (q.1=k)) ((l.map (·.1)).zip ents) 0
     rw[Nat.zero_add]at*
     rw[this,I];rfl
    ·obtain⟨Z,b2⟩:=Y v y M
     simp only[bu,if_neg E,modify_succ_cons,map_cons,RepL]
     exact⟨⟨_,_,rfl,N,Z⟩,by rw[hk.1,b2]⟩
theorem gX {k:κ} {x:AV}:∀{l:List (κ×AV)},aN k l=none->bu k x l=l++[(k,x)]
 |[],_=>rfl
 |p::l,h=>by
  simp only[aN]at h
  split at h
  ·cases h
  ·rename_i E
   simp only[bu,if_neg E,cons_append,gX h]
theorem set_sub {b k:Nat} {y z:AObj}:∀{σ:Store},(k,z)∈σ.set b y->(k,z)∈σ\/(k=b/\z=y)
 |[],h=>by simp[Store.set]at h
 |(k0,x0)::s,h=>by
  simp only[Store.set]at h
  split at h
  ·rename_i E
   rcases mem_cons.1 h with h|h
   ·cases h;exact .inr ⟨E,rfl⟩
   ·exact .inl (mem_cons_of_mem _ h)
  ·rcases mem_cons.1 h with h|h
   ·cases h;exact .inl (by simp)
   ·rcases set_sub h with h|h
    ·exact .inl (mem_cons_of_mem _ h)
    ·exact .inr h
theorem fA (k v:Value):∀(l:List MapEntry) (i:Nat),(l.modify i λe=>{e with key:=k,val:=v}).map (·.born)=l.map (·.born)
 |[],i=>by simp
 |e::l,0=>by simp
 |e::l,i+1=>by simp only[modify_succ_cons,map_cons,fA k v l i]
theorem Ev.setMap {w:World} {b:Nat} {es N:List (Value×AV)} {ents E:Array MapEntry} {c V:Nat} (Y:(b,AObj.map es)∈σ) (X:w.heap[b]? =some (.map ents c)):
  Ev σ w (σ.set b (.map N)) {w with heap:=w.heap.setIfInBounds b (.map E V)}:=by
 have ac:b<w.heap.size:=(Array.getElem?_eq_some_iff.1 X).1
 have I:∀k,k≠b->(w.heap.setIfInBounds b (.map E V))[k]? =w.heap[k]? :=λk F=>by simp[Ne.symm F]
 have J:∀o,Mut σ b o:=λo=>⟨_,Y,trivial⟩
 refine⟨rfl,rfl,rfl,by simp,λk F M=>⟨I k (λe=>M (by rw[e];exact mem_map.2 ⟨_,Y,rfl⟩)),λh=>M (by rwa [dj]at h)⟩,?_,?_⟩
 ·intro k s Z
  by_cases F:k=b
  ·subst F
   simp[World.shape?,X]at Z
  ·unfold World.shape? at*
   rw[I k F]
   exact Z
 ·intro a v hv M
  by_cases F:a.block=b
  ·exact absurd (F ▸ J a.off) M
  ·refine⟨?_,?_⟩
   ·unfold World.cell? at*
    rw[I _ F]
    exact hv
   ·rintro⟨x,O,T⟩
    rcases set_sub O with O|⟨e,_⟩
    ·exact M ⟨x,O,T⟩
    ·exact F e
theorem cc {t:TypeId} (I:∀b,b∉σ.keys->K (.sc (.map (some b))) ((b,.map [])::σ)):RAW G P (.makeMap t none) env σ K ⟨⟩:=by
 intro ρ w a op J F M
 have E:(w.alloc (.map #[] 0)).heap[w.heap.size]? =some (.map #[] 0):=heap_alloc_new w _
 refine⟨.map (some w.heap.size),w.alloc (.map #[] 0),.sc (.map (some w.heap.size)),_,.inl ?_,I _ (eR F),F.alloc _ _ ⟨#[],0,E,rfl,by simp[RepL],by simp,by simp⟩,Ev.alloc _ _,by simp only[Rep]⟩
 simp[execOp,J,run_makeMap]
theorem aC (M:MapK P kT val) {xT eT:TypeId} {x ix:Operand} {E:Bool} {b:Nat} {l:List (κ×AV)} {k:κ} {z:Value} {zv:AV} (hx:(SOpd.of x).eval G env= .sc (.map (some b)))
  (Y:∀τ w v,Rep τ w ((SOpd.of ix).eval G env) v->v=val k) (hu:P.underlying xT=some (.map kT eT)) (hg:σ.get b=some (.map (bB val l))) (hz:(P.info? eT).bind (·.zero)=some z) (N:∀τ w,Rep τ w zv z)
  (hk:K (if E then .tup [(aN k l).getD zv,.bool (aN k l).isSome]else (aN k l).getD zv) σ):RAW G P (.lookup xT x ix E) env σ K ⟨⟩:=by
 refine ca _ (λρ w a op ho X hE=>?_) hk
 have O:=ar X hE x
 have h2:=Y _ _ _ (ar X hE ix)
 rw[hx]at O
 simp only[Rep]at O
 obtain⟨ents,c,hh,ac,J,_⟩:=X.obj b _ (mem_append.2 (.inl (Store.get_mem hg)))
 have e1:ents.toList.map (·.key)=l.map λp=>val p.1:=by rw[ac];simp[bB]
 have e2:(bB val l).map (·.2)=l.map (·.2):=by simp[bB]
 rw[e2]at J
 have e3:=M.find k (l.map (·.1)) ents.toList w (by rw[e1];simp)
 have ag:(zeroValue eT).run P w= .ok z w:=by
  obtain⟨i,hi,Z⟩:=Option.bind_eq_some_iff.1 hz
  have ad:(typeInfo eT).run P w= .ok i w:=run_typeInfo w hi
  simp[zeroValue,ad,Z]
 have F:∀em,(Instr.checkKey em 10000 kT (val k)).run P w= .ok () w:=λem=>M.ck em k w
 have I:(getObj b).run P w= .ok (.map ents c) w:=by simp[getObj,Sem.run,hh]
 have ah:∀o,(setObj b o).run P w= .ok () {w with heap:=w.heap.setIfInBounds b o}:=λo=>by simp[setObj,Sem.run,hh]
 rcases kX k l ents.toList e1 J with⟨T,V⟩|⟨y,i,e,T,V,a3,a4,_,_⟩
 ·refine⟨if E then .tuple #[z,.bool false]else z,?_,?_⟩
  ·simp[execOp,ho,O,h2,Instr.lookup,run_underlying hu,I,F,e3,V,ag]
  ·rw[T]
   cases E with
   |false=>simpa using N _ _
   |true=>simp only[if_true,Option.getD_none,Option.isSome_none,Rep];exact⟨_,rfl,by simp only[RepL];exact⟨_,_,rfl,N _ _,_,_,rfl,by simp only[Rep],rfl⟩⟩
 ·refine⟨if E then .tuple #[e.val,.bool true]else e.val,?_,?_⟩
  ·simp[execOp,ho,O,h2,Instr.lookup,run_underlying hu,I,F,e3,V]
  ·rw[T]
   cases E with
   |false=>simpa using a4
   |true=>simp only[if_true,Option.getD_some,Option.isSome_some,Rep];exact⟨_,rfl,by simp only[RepL];exact⟨_,_,rfl,a4,_,_,rfl,by simp only[Rep],rfl⟩⟩
theorem cr (M:MapK P kT val) {xT eT:TypeId} {x ix y:Operand} {b:Nat} {l:List (κ×AV)} {k:κ} {yv:AV} (hx:(SOpd.of x).eval G env= .sc (.map (some b)))
  (aw:∀τ w v,Rep τ w ((SOpd.of ix).eval G env) v->v=val k) (hy:(SOpd.of y).eval G env=yv) (hu:P.underlying xT=some (.map kT eT)) (hg:σ.get b=some (.map (bB val l)))
  (hk:K aE (σ.set b (.map (bB val (bu k yv l))))):RAW G P (.mapUpdate xT x ix y) env σ K ⟨⟩:=by
 intro ρ w a op ho J hE
 have h1:=ar J hE x
 have h2:=aw _ _ _ (ar J hE ix)
 have h3:=ar J hE y
 rw[hx]at h1
 rw[hy]at h3
 simp only[Rep]at h1
 have hm:=Store.get_mem hg
 obtain⟨ents,c,hh,bb,O,ac,N⟩:=J.obj b _ (mem_append.2 (.inl hm))
 have e1:ents.toList.map (·.key)=l.map λp=>val p.1:=by rw[bb];simp[bB]
 have e2:(bB val l).map (·.2)=l.map (·.2):=by simp[bB]
 rw[e2]at O
 have e3:=M.find k (l.map (·.1)) ents.toList w (by rw[e1];simp)
 have bd:b<w.heap.size:=(Array.getElem?_eq_some_iff.1 hh).1
 have V:∀(E:Array MapEntry) (T:Nat),E.toList.map (·.key)=((bu k yv l).map λp=>val p.1)->RepL (σ++ρ) w ((bu k yv l).map (·.2)) (E.toList.map (·.val))->(E.toList.map (·.born)).Nodup/\(∀e∈E.toList,e.born<T)->
   Sat G (σ.set b (.map (bB val (bu k yv l)))++ρ) {w with heap:=w.heap.setIfInBounds b (.map E T)}/\Ev σ w (σ.set b (.map (bB val (bu k yv l)))) {w with heap:=w.heap.setIfInBounds b (.map E T)}:=by
  intro E T g1 g2 g3
  have F:Ev σ w (σ.set b (.map (bB val (bu k yv l)))) {w with heap:=w.heap.setIfInBounds b (.map E T)}:=Ev.setMap hm hh
  refine⟨?_,F⟩
  have ad:=J.nodup_left
  refine J.step F (by rw[dj];exact ad) (λk hk=>.inl (by rwa [dj]at hk)) ?_
  intro k' q hq
  rcases jx hq ad with⟨rfl,rfl⟩|⟨be,hq⟩
  ·refine⟨E,T,by simp[bd],by rw[g1];simp[bB],?_,g3⟩
   have:=RepL.ev F _ _ g2
   have e4:(bB val (bu k yv l)).map (·.2)=(bu k yv l).map (·.2):=by simp[bB]
   rw[e4];exact this
  ·exact(J.obj k' q (mem_append.2 (.inl hq))).keep F (by simp[Ne.symm be])
 have X:∀em,(Instr.checkKey em 10000 kT (val k)).run P w= .ok () w:=λem=>M.ck em k w
 have Y:(getObj b).run P w= .ok (.map ents c) w:=by simp[getObj,Sem.run,hh]
 have ag:∀o,(setObj b o).run P w= .ok () {w with heap:=w.heap.setIfInBounds b o}:=λo=>by simp[setObj,Sem.run,hh]
 rcases kX k l ents.toList e1 O with⟨a1,a2⟩|⟨u,i,e,a1,a2,a3,a4,a5,a6⟩
 ·obtain⟨s1,s2⟩:=V (ents.push {key:=val k,val:=a.eval y,born:=c}) (c+1) (by rw[gX a1];simp[e1]) (by
   rw[gX a1]
   simp only[map_append,map_cons,map_nil,Array.toList_push]
   exact RepL.append O (by simp only[RepL];exact⟨_,_,rfl,h3,rfl⟩)) (by
   simp only[Array.toList_push,map_append,map_cons,map_nil]
   refine⟨nodup_append.2 ⟨ac,by simp,λx hx y hy=>?_⟩,λe I=>?_⟩
   ·obtain⟨e,I,rfl⟩:=mem_map.1 hx
    have:=N e I
    simp only[mem_singleton]at hy
    omega
   ·rcases mem_append.1 I with I|I
    ·exact Nat.lt_succ_of_lt (N e I)
    ·simp only[mem_singleton]at I;subst I;exact Nat.lt_succ_self c)
  refine⟨undef,_,aE,_,.inr ⟨?_,rfl⟩,hk,s1,s2,?_⟩
  ·simp[execOp,ho,h1,h2,Instr.mapUpdate,run_underlying hu,Y,X,e3,a2,ag]
  ·exact cb _ _
 ·obtain⟨b1,b2⟩:=a6 (a.eval y) yv h3
  have bh:=M.stays k w
  have ah:ents[i]? =some e:=by simpa using a3
  obtain⟨s1,s2⟩:=V (ents.modify i λe=>{e with key:=val k,val:=a.eval y}) c (by simpa[Array.toList_modify]using b2) (by simpa[Array.toList_modify]using b1) (by
   have Z:(ents.modify i λe=>{e with key:=val k,val:=a.eval y}).toList.map (·.born)=ents.toList.map (·.born):=by
    rw[Array.toList_modify];exact fA _ _ _ _
   refine⟨by rw[Z];exact ac,λe' al=>?_⟩
   have h5:e'.born∈ents.toList.map (·.born):=by rw[←Z];exact mem_map.2 ⟨_,al,rfl⟩
   obtain⟨e2,an,h6⟩:=mem_map.1 h5
   rw[←h6];exact N e2 an)
  refine⟨undef,_,aE,_,.inr ⟨?_,rfl⟩,hk,s1,s2,?_⟩
  ·simp[execOp,ho,h1,h2,Instr.mapUpdate,run_underlying hu,Y,X,e3,a2,ah,a5,bh,ag]
  ·exact cb _ _
end
section
variable {P:Program}
theorem m0 {t:TypeId} {fs:Array Field} {ks:List Nat} (N:P.underlying t=some (.struct fs)) (I:cX P 8 t=some ks) (us vs:Array Value) (r:Bool) (V:us.size=ks.length) (X:vs.size=ks.length)
  (O:eqK ks us.toList vs.toList=some r) (w':World):(Op.equalIn 10000 t (.agg us) (.agg vs)).run P w'= .ok r w':=by
 have E:P.stoodInHeld t=false/\∃F,eD (cX P 7) fs.toList 0=some F/\F=ks:=by
  simp only[cX,N]at I
  split at I
  ·cases I
  rename_i E
  split at I
  ·rename_i F J
   split at I
   ·cases I;exact⟨by simpa using E,_,J,rfl⟩
   ·cases I
  ·cases I
 obtain⟨E,F,J,rfl⟩:=E
 have T:P.underlying t=some (.struct (P.fieldsOf t)):=by simp[Program.fieldsOf,N]
 have M:P.fieldsOf t=fs:=by simp[Program.fieldsOf,N]
 rw[run_equalIn_struct w' 9999 t _ _ T E,M]
 exact dC (flatOk P 7) fs.toList 0 F J 9998 us vs r (by omega) (by omega) (by omega) (by simpa using O) w'
def CheckF (P:Program) (em:Bool) (d:Nat):Prop:=
 ∀(t:TypeId) (ks:List Nat),cX P d t=some ks->∀(D:Nat) (xs:Array Value) (off:Nat),d<=D->off+ks.length<=xs.size->∀w':World,
  ∃u,(part t xs off).run P w'= .ok u w'/\(Instr.checkKey em D t u).run P w'= .ok () w'
theorem dx {em:Bool} {d:Nat} (F:CheckF P em d) (D:Nat) (I:d<=D) (xs:Array Value) (w':World):∀(fs:List Field) (off:Nat) (ks:List Nat),eD (cX P d) fs off=some ks->off+ks.length<=xs.size->
  ∀f∈fs,f.name≠ "_" /\∃u,(part f.type xs f.offset).run P w'= .ok u w'/\(Instr.checkKey em D f.type u).run P w'= .ok () w'
 |[],_,_,_,_,f,hf=>by cases hf
 |g::fs,off,ks,h,hx,f,hf=>by
  simp only[eD]at h
  split at h
  ·cases h
  rename_i E
  simp at E
  split at h
  ·rename_i k1 J
   split at h
   ·rename_i N M
    cases h
    simp only[length_append]at hx
    rcases mem_cons.1 hf with rfl|hf
    ·exact⟨E.1,F f.type k1 J D xs f.offset I (by rw[E.2];omega) w'⟩
    ·exact dx F D I xs w' fs _ N M (by omega) f hf
   ·cases h
  ·cases h
theorem eO {em:Bool} {t:TypeId} {fs:Array Field} (F:P.underlying t=some (.struct fs)) (D:Nat) (xs:Array Value) (w':World)
  (h:∀f∈fs.toList,f.name≠ "_" /\∃u,(part f.type xs f.offset).run P w'= .ok u w'/\(Instr.checkKey em D f.type u).run P w'= .ok () w'):(Instr.checkKey em (D+1) t (.agg xs)).run P w'= .ok () w':=by
 rw[Instr.checkKey]
 simp only[Sem.run_bind,run_underlying F,Result.andThen_ok]
 rw[←Array.forIn_toList]
 generalize fs.toList=L at h
 induction L with
 |nil=>simp
 |cons f L ih=>
  obtain⟨E,a,J,M⟩:=h f (by simp)
  simp only[forIn_cons,Sem.run_bind,E,ne_eq,not_false_eq_true,if_true,Result.andThen_ok,J,M,Sem.run_pure]
  exact ih λy I=>h y (by simp[I])
theorem checkF (em:Bool):∀d,CheckF P em d
 |0,t,ks,h=>by simp[cX]at h
 |d+1,t,ks,h=>by
  intro D xs off X T w'
  obtain⟨D',rfl⟩:∃D',D=D'+1:=⟨D-1,by omega⟩
  have one:∀k:TypeDesc,P.underlying t=some k->(k= .bool\/(∃q,k= .int q)\/k= .string)->ks.length=1->∃u,(part t xs off).run P w'= .ok u w'/\(Instr.checkKey em (D'+1) t u).run P w'= .ok () w':=by
   intro k E N Y
   refine⟨xs[off]'(by omega),?_,?_⟩
   ·unfold part
    rw[Sem.run_bind,cq E]
    rcases N with rfl|⟨q,rfl⟩|rfl<;>simp[aggD,show off<xs.size by omega]
   ·rw[Instr.checkKey]
    simp only[Sem.run_bind,run_underlying E,Result.andThen_ok]
    rcases N with rfl|⟨q,rfl⟩|rfl<;>rfl
  simp only[cX]at h
  split at h
  ·rename_i E
   cases h
   exact one _ E (.inl rfl) rfl
  ·rename_i E
   cases h
   exact one _ E (.inr (.inl ⟨_,rfl⟩)) rfl
  ·rename_i E
   cases h
   exact one _ E (.inr (.inr rfl)) rfl
  ·rename_i fs E
   split at h
   ·cases h
   rename_i O
   split at h
   ·rename_i V J
    split at h
    ·rename_i M
     cases h
     have I:aZ P t=some ks.length:=by simpa using M
     have F:aggD (.struct fs)=true:=rfl
     refine⟨_,fF E I xs off (by simp[F]) T w',?_⟩
     simp only[F,if_true]
     refine eO E D' _ w' (dx (checkF em d) D' (by omega) _ w' fs.toList 0 ks J (by simp;omega))
    ·cases h
   ·cases h
  ·cases h
theorem fk (n:Nat) (k:IntKind) (a:Int):Instr.sameBits n (.int k a) (.int k a)=true:=by cases n<;>simp[Instr.sameBits]
theorem mo (n:Nat) (s:ByteArray):Instr.sameBits n (.string s) (.string s)=true:=by
 obtain⟨d⟩:=s
 have h:((⟨d⟩:ByteArray)==⟨d⟩)=true:=by show(d==d)=true;simp
 cases n<;>simp[Instr.sameBits,h]
theorem nT {α:Type}:∀l:List α,l.zip l=l.map λx=>(x,x)
 |[]=>rfl
 |x::l=>by simp[nT l]
theorem iX {t:TypeId} {fs:Array Field} {ks:List Nat} (N:P.underlying t=some (.struct fs)) (F:cX P 8 t=some ks) {κ:Type} [DecidableEq κ] (vals:κ->List Value) (X:∀k,(vals k).length=ks.length)
  (V:∀a b,eqK ks (vals a) (vals b)=some (decide (a=b))) (hs:∀k,∀v∈vals k,∀n,Instr.sameBits n v v=true):MapK P t (λk=>.agg (vals k).toArray) where
 ck em k w:=by
  have M:∃E,eD (cX P 7) fs.toList 0=some E/\E=ks:=by
   simp only[cX,N]at F
   split at F
   ·cases F
   rename_i M
   split at F
   ·rename_i E J
    split at F
    ·cases F;exact⟨_,J,rfl⟩
    ·cases F
   ·cases F
  obtain⟨E,J,rfl⟩:=M
  exact eO N 9999 _ w (dx (checkF em 7) 9999 (by omega) _ w fs.toList 0 E J (by simp[X]))
 find k l ents w I:=by
  have Z:∀b:κ,(Op.equal t (.agg (vals k).toArray) (.agg (vals b).toArray)).run P w= .ok (decide (k=b)) w:=λb=>
   m0 N F _ _ _ (by simp[X]) (by simp[X]) (by simpa using V k b) w
  have O:∀(l:List κ) (ents:List MapEntry) (i:Nat),ents.map (·.key)=l.map (λk=>Value.agg (vals k).toArray)->
    (Instr.findAsking t (.agg (vals k).toArray) ents i).run P w= .ok ((((l.zip ents).zipIdx i).find? λq=>decide (q.1.1=k)).map λq=>(q.2,q.1.2.val)) w:=by
   intro l
   induction l with
   |nil=>
    intro ents i I
    cases ents with
    |nil=>simp[Instr.findAsking]
    |cons e es=>simp at I
   |cons b l ih=>
    intro ents i I
    cases ents with
    |nil=>simp at I
    |cons e es=>
     simp only[map_cons,List.cons.injEq]at I
     simp only[Instr.findAsking,Sem.run_bind,I.1,Z b,Result.andThen_ok,zip_cons_cons,zipIdx_cons,find?_cons]
     by_cases T:k=b
     ·subst T;simp
     ·have:decide (b=k)=false:=by simp;exact λe=>T e.symm
      simp only[decide_eq_false T,this,Bool.false_eq_true,if_false]
      exact ih es (i+1) I.2
  have Y:(Instr.findKey t (.agg (vals k).toArray) ents).run P w=(Instr.findAsking t (.agg (vals k).toArray) ents 0).run P w:=by
   cases ents with
   |nil=>simp[Instr.findKey,run_underlying N,Instr.findNow,Instr.findAsking]
   |cons e es=>simp[Instr.findKey,run_underlying N,Instr.findNow,Instr.sameNow]
  rw[Y]
  exact O l ents 0 I
 stays k w:=by
  have h:Instr.sameBits 10000 (.agg (vals k).toArray) (.agg (vals k).toArray)=true:=by
   simp only[Instr.sameBits,beq_self_eq_true,Bool.true_and,nT,all_map,all_eq_true,Function.comp]
   intro v hv
   exact hs k v (by simpa using hv) _
  simp[Instr.keyThatStays,h]
theorem oJ {G:Glob} {env:Env} {σ:Store} {K:AV->Store->Prop} {x:Operand} {M kT eT:TypeId} {b:Nat} {es:List (Value×AV)} (hx:(SOpd.of x).eval G env= .sc (.map (some b))) (Z:P.underlying M=some (.map kT eT)) (O:σ.get b=some (.map es))
  (V:K (.int .i64 es.length) σ):RAW G P (.call (.mk (.builtin .len) #[x] #[M])) env σ K ⟨⟩:=by
 refine ca _ (λρ w a op Y J N=>?_) V
 have E:=ar J N x
 rw[hx]at E
 simp only[Rep]at E
 obtain⟨ents,c,T,I,ac,_⟩:=J.obj b _ (mem_append.2 (.inl (Store.get_mem O)))
 have X:ents.size=es.length:=by have:=congrArg List.length I;simpa using this
 refine⟨.int .i64 es.length,?_,by simp only[Rep]⟩
 have F:(getObj b).run P w= .ok (.map ents c) w:=by simp[getObj,Sem.run,T]
 simp[execOp,Y,resolve,invoke,builtin,E,Builtin.len_,run_underlying Z,F,X]
 rfl
end
end Go.Av
