/-
  ABSTRACT VALUES, 21: rows of bytes; rows that are made, copied into, turned into strings.
-/
import Derived.Test.YtnoakpkjccigoaaGreatDoorXAv16toXAv20
import Derived.Laws.IdiomStrings
import Derived.Laws.CopyRow
import Derived.Laws.MakeOwn
import Derived.Laws.OwnMore
import Derived.Lib.BufferRead
import Derived.MapKept
import Derived.Carry
namespace Go.Av
open Go Go.RowKit List
set_option linter.unusedSimpArgs false
set_option linter.unusedVariables false
def dQ (t:List UInt8):List (List AV):=t.map λc=>[.int .u8 c.toNat]
theorem fo (t:List UInt8):(dQ t).length=t.length:=by simp[dQ]
theorem dx (σ:Store):Store.erase σ none=σ:=rfl
theorem lE (x:Nat):Store.erase [] (some x)=[]:=rfl
theorem jV (k x:Nat) (o:AObj) (σ:Store):Store.erase ((k,o)::σ) (some x)=if k=x then Store.erase σ (some x)else (k,o)::Store.erase σ (some x):=by
 by_cases h:k=x<;>simp[Store.erase,h]
section
variable {G:Glob} {P:Program}
theorem mf {τ:Store} {w:World} {b:Nat} {l:List UInt8} (h:∀j (hj:j<l.length),w.cell? ⟨b,j,none⟩=some (.int .u8 l[j].toNat)/\¬Mut τ b j):ar τ w ⟨b,0,none⟩ 1 0 (dQ l):=by
 refine ar.of_get λj hj=>?_
 rw[fo]at hj
 have e:(dQ l)[j]'(by rw[fo];exact hj)=[.int .u8 (l[j]).toNat]:=by simp[dQ]
 rw[e]
 refine⟨rfl,?_⟩
 simp only[RepAt]
 refine⟨⟨.int .u8 l[j].toNat,?_,rfl,by simp only[Rep]⟩,trivial⟩
 rw[add_lit]
 simpa[jq]using h j hj
theorem Sat.setRow {σ ρ:Store} {w:World} {b off:Nat} {e:TypeId} {cs c:List AV} {us:List Value} (hS:Sat G (σ++ρ) w) (hg:σ.get b=some (.cells e cs)) (r1:RepL (σ++ρ) w c us) (r2:∀v∈us,v.oneCell'=true)
  (hle:off+c.length<=cs.length):
  ∃vs,w.heap[b]? =some (.cells vs e (0,0))/\vs.size=cs.length/\Ev σ w (σ.set b (.cells e (aH cs off c))) (w.setRow b (vs.toList.take off++us++vs.toList.drop (off+us.length)).toArray)/\
   Sat G (σ.set b (.cells e (aH cs off c))++ρ) (w.setRow b (vs.toList.take off++us++vs.toList.drop (off+us.length)).toArray):=by
 have hm:=Store.get_mem hg
 obtain⟨vs,hh,h1,hr⟩:=hS.obj b _ (mem_append.2 (.inl hm))
 have l1:=hr.length
 have l2:=r1.length
 have hsize:((vs.toList.take off++us++vs.toList.drop (off+us.length)).toArray).size=vs.size:=by simp at l1 l2 ⊢;omega
 have hev:Ev σ w (σ.set b (.cells e (aH cs off c))) (w.setRow b (vs.toList.take off++us++vs.toList.drop (off+us.length)).toArray):=Ev.setRow hm hh hsize
 refine⟨vs,hh,by simpa using l1,hev,?_⟩
 have hnd:=hS.nodup_left
 refine hS.step hev (by rw[dk];exact hnd) (λk hk=>.inl (by rwa [dk]at hk)) ?_
 intro k z hz
 rcases jH hz hnd with⟨rfl,rfl⟩|⟨hne,hz⟩
 ·refine⟨_,setRow_heap w k vs _ e (0,0) hh,?_,?_⟩
  ·intro v hv
   simp only[mem_append]at hv
   rcases hv with(hv|hv)|hv
   ·exact h1 v (mem_of_mem_take hv)
   ·exact r2 v hv
   ·exact h1 v (mem_of_mem_drop hv)
  ·have q1:=RepL.ev hev _ _ hr
   have q2:=RepL.ev hev _ _ r1
   have e1:=aY cs off c (by omega)
   generalize (σ.set k (.cells e (aH cs off c))++ρ:Store)=τ' at*
   generalize w.setRow k _=w2 at*
   rw[e1]
   rw[l2]
   exact RepL.append (RepL.append (RepL.take _ q1) q2) (RepL.drop _ q1)
 ·exact(hS.obj k z (mem_append.2 (.inl hz))).keep hev (setRow_other w b k _ hne)
theorem mL {src dst elem:TypeId} {i:Nat} {l:List UInt8} {env:Env} {σ:Store} {K:AV->Store->Prop} (hi:env.get i= .str l) (hlen:l.length<1000000000)
  (hs:P.underlying src=some .string) (hd:P.underlying dst=some (.slice elem)) (he:P.underlying elem=some (.int .u8)) (hk:K (.lst 1 (dQ l)) σ):RAW G P (.convert src dst (.tmp i)) env σ K ⟨⟩:=by
 intro ρ w a op ho hS hE
 have h1:=hE i
 rw[hi]at h1
 simp only[Rep]at h1
 have e3:a.eval (.tmp i)= .string ⟨⟨l⟩⟩:=h1
 have hrun:=run_bytes_of_string (P:=P) w src dst elem ⟨⟨l⟩⟩ hs hd he
 have hge:=grownCap_ge w l.length 0 elem
 have hcm:=grownCap_le_maxLen w l.length 0 elem (by unfold maxLen;omega)
 generalize hcp:grownCap w l.length 0 elem=cp at*
 have hsz:(⟨⟨l⟩⟩:ByteArray).size=l.length:=rfl
 rw[hsz]at hrun
 rw[hcp]at hrun
 have hev:Ev σ w σ (w.drew.alloc (.cells (bytesRow ⟨⟨l⟩⟩ cp) elem ((bytesRow ⟨⟨l⟩⟩ cp).size,(bytesRow ⟨⟨l⟩⟩ cp).size+1))):=Ev.trans Ev.drew (Ev.alloc0 _)
 have hlt:∀b x,(b,x)∈σ++ρ->b<w.heap.size:=λb x hx=>(hS.obj b x hx).lt
 refine⟨_,_,.lst 1 (dQ l),σ,.inl (by simp[execOp,ho,e3,hrun];rfl),hk,?_,hev,?_⟩
 ·refine hS.step hev hS.nodup_left (λb hb=>.inl hb) (λb x hx=>(hS.obj b x (mem_append.2 (.inl hx))).keep hev ?_)
  exact Below.heap_alloc _ _ b (hlt b x (mem_append.2 (.inl hx)))
 ·simp only[Rep]
  right
  rw[fo]
  refine⟨_,_,rfl,hge,hcm,mf λj hj=>⟨?_,?_⟩⟩
  ·have hb:(w.drew.alloc (.cells (bytesRow ⟨⟨l⟩⟩ cp) elem ((bytesRow ⟨⟨l⟩⟩ cp).size,(bytesRow ⟨⟨l⟩⟩ cp).size+1))).heap[w.heap.size]? =some (.cells (bytesRow ⟨⟨l⟩⟩ cp) elem ((bytesRow ⟨⟨l⟩⟩ cp).size,(bytesRow ⟨⟨l⟩⟩ cp).size+1)):=by
    show(w.heap.push _)[w.heap.size]? =_
    simp
   simp only[World.cell?,hb]
   have:=bytesRow_at ⟨⟨l⟩⟩ cp j hj
   simpa using this
  ·rintro⟨x,hx,_⟩
   exact Nat.lt_irrefl _ (hlt _ _ hx)
theorem lh {z:Array Value} {n:Nat} {v:Value} (hz:0<z.size) (h:v∈(madeCells z n).toList):v∈z.toList:=by
 unfold madeCells at h
 simp only[Array.toList_map,mem_map]at h
 obtain⟨i,hi,rfl⟩:=h
 have hm:=Nat.mod_lt i hz
 rw[getElem!_pos z (i % z.size) hm]
 simp
end
section
variable {G:Glob}
end
section
theorem aA {x:Int} (h1: -9223372036854775808<=x) (h2:x<9223372036854775808):IntKind.i64.wrap x=x:=by
 have:=IntWalk.i64_in x ⟨h1,by omega⟩
 exact this
theorem natBeq (n:Nat):(n==n)=true:=by simp
set_option linter.defProp false
def EV5:=(AI (AI (AI (AI (AI @List.contains_cons.{0} @List.contains_nil.{0}) (AI @Bool.or_false @Bool.false_or)) (AI (AI @Bool.or_true @Bool.true_or) (AI @Bool.not_true (AI @Bool.not_false @List.map_cons.{0,0})))) (AI (AI (AI @List.map_nil.{0,0} @retQ_ret) (AI @ob @RX_nil)) (AI (AI @RX_tmp @RX_cell) (AI @one_nil (AI @one_one @one_two))))) (AI (AI (AI (AI @oB @mU) (AI @List.length_cons.{0} @List.length_nil.{0})) (AI (AI @List.cons_append.{0} @List.nil_append.{0}) (AI @List.drop_succ_cons.{0} (AI @List.drop_zero.{0} @List.drop_nil.{0})))) (AI (AI (AI @List.take_succ_cons.{0} @List.take_zero.{0}) (AI @List.headD_cons.{0} @true_and)) (AI (AI @and_true @Nat.le_refl) (AI @List.getD_cons_zero.{0} (AI @List.getD_cons_succ.{0} @natBeq))))))
def EV6:=(AI (AI (AI (AI @decide_true @decide_false) (AI @Nat.zero_add @Nat.mul_one)) (AI (AI @Int.cast_ofNat_Int @Int.toNat_zero) (AI @Bool.true_eq_false @Bool.false_eq_true))) (AI (AI (AI @not_true_eq_false @not_false_eq_true) (AI @aA @ne_eq)) (AI (AI @Option.map_some @Bool.true_and) (AI @Bool.and_true (AI @Bool.false_and @Bool.and_false)))))
end
structure MapK (P:Program) (kT:TypeId) {κ:Type} [DecidableEq κ] (val:κ->Value):Prop where
 ck:∀(em:Bool) (k:κ) (w:World),(Instr.checkKey em 10000 kT (val k)).run P w= .ok () w
 find:∀(k:κ) (ks:List κ) (ents:List MapEntry) (w:World),ents.map (·.key)=ks.map val->
  (Instr.findKey kT (val k) ents).run P w= .ok (((ks.zip ents).zipIdx.find? λq=>decide (q.1.1=k)).map λq=>(q.2,q.1.2.val)) w
 stays:∀(k:κ) (w:World),(Instr.keyThatStays (val k) (val k)).run P w= .ok (val k) w
def aS {κ:Type} [DecidableEq κ] (k:κ):List (κ×AV)->Option AV
 |[]=>none
 |p::l=>if p.1=k then some p.2 else aS k l
def dj {κ:Type} [DecidableEq κ] (k:κ) (x:AV):List (κ×AV)->List (κ×AV)
 |[]=>[(k,x)]
 |p::l=>if p.1=k then (p.1,x)::l else p::dj k x l
def cl {κ:Type} (val:κ->Value) (l:List (κ×AV)):List (Value×AV):=l.map λp=>(val p.1,p.2)
section
variable {G:Glob} {P:Program} {env:Env} {σ:Store} {K:AV->Store->Prop} {κ:Type} [DecidableEq κ] {kT:TypeId} {val:κ->Value}
theorem ic {α:Type} (p:α->Bool):∀(l:List α) (n:Nat),((l.zipIdx (n+1)).find? λq=>p q.1)=((l.zipIdx n).find? λq=>p q.1).map λq=>(q.1,q.2+1)
 |[],n=>rfl
 |a::l,n=>by
  simp only[zipIdx_cons,find?_cons]
  cases h:p a with
  |true=>simp
  |false=>simp only[];exact ic p l (n+1)
theorem kO {τ:Store} {w:World} (k:κ):∀(l:List (κ×AV)) (ents:List MapEntry),ents.map (·.key)=(l.map λp=>val p.1)->RepL τ w (l.map (·.2)) (ents.map (·.val))->
  (aS k l=none/\(((l.map (·.1)).zip ents).zipIdx.find? λq=>decide (q.1.1=k))=none)\/
  ∃x i e,aS k l=some x/\(((l.map (·.1)).zip ents).zipIdx.find? λq=>decide (q.1.1=k))=some ((k,e),i)/\ents[i]? =some e/\Rep τ w x e.val/\e.key=val k/\
   (∀v y,Rep τ w y v->RepL τ w ((dj k y l).map (·.2)) ((ents.modify i λe=>{e with key:=val k,val:=v}).map (·.val))/\(ents.modify i λe=>{e with key:=val k,val:=v}).map (·.key)=(dj k y l).map λp=>val p.1)
 |[],ents,hk,hr=>.inl ⟨rfl,by simp⟩
 |p::l,[],hk,hr=>by simp at hk
 |p::l,e::ents,hk,hr=>by
  simp only[map_cons,List.cons.injEq]at hk
  simp only[map_cons,RepL]at hr
  obtain⟨u,us,h1,h2,h3⟩:=hr
  injection h1 with h1 h1'
  subst h1 h1'
  by_cases hp:p.1=k
  ·right
   subst hp
   refine⟨p.2,0,e,by simp[aS],by simp[zipIdx_cons],rfl,h2,hk.1,λv y hy=>?_⟩
   simp only[dj,if_true,modify_zero_cons,map_cons,RepL]
   exact⟨⟨v,_,rfl,hy,h3⟩,by rw[hk.2]⟩
  ·rcases kO k l ents hk.2 h3 with⟨a1,a2⟩|⟨x,i,e',a1,a2,a3,a4,a5,a6⟩
   ·left
    refine⟨by simp[aS,hp,a1],?_⟩
    simp only[map_cons,zip_cons_cons,zipIdx_cons,find?_cons,hp,decide_false]
    have:=ic (λq:κ×MapEntry=>decide (q.1=k)) ((l.map (·.1)).zip ents) 0
    rw[Nat.zero_add]at*
    rw[this,a2];rfl
   ·right
    refine⟨x,i+1,e',by simp[aS,hp,a1],?_,by simpa using a3,a4,a5,λv y hy=>?_⟩
    ·simp only[map_cons,zip_cons_cons,zipIdx_cons,find?_cons,hp,decide_false]
     have:=ic (λq:κ×MapEntry=>decide (q.1=k)) ((l.map (·.1)).zip ents) 0
     rw[Nat.zero_add]at*
     rw[this,a2];rfl
    ·obtain⟨b1,b2⟩:=a6 v y hy
     simp only[dj,if_neg hp,modify_succ_cons,map_cons,RepL]
     exact⟨⟨_,_,rfl,h2,b1⟩,by rw[hk.1,b2]⟩
theorem im {k:κ} {x:AV}:∀{l:List (κ×AV)},aS k l=none->dj k x l=l++[(k,x)]
 |[],_=>rfl
 |p::l,h=>by
  simp only[aS]at h
  split at h
  ·cases h
  ·rename_i hp
   simp only[dj,if_neg hp,cons_append,im h]
theorem set_sub {b k:Nat} {y z:AObj}:∀{σ:Store},(k,z)∈σ.set b y->(k,z)∈σ\/(k=b/\z=y)
 |[],h=>by simp[Store.set]at h
 |(k0,x0)::s,h=>by
  simp only[Store.set]at h
  split at h
  ·rename_i hk
   rcases mem_cons.1 h with h|h
   ·cases h;exact .inr ⟨hk,rfl⟩
   ·exact .inl (mem_cons_of_mem _ h)
  ·rcases mem_cons.1 h with h|h
   ·cases h;exact .inl (by simp)
   ·rcases set_sub h with h|h
    ·exact .inl (mem_cons_of_mem _ h)
    ·exact .inr h
theorem Ev.setMap {w:World} {b:Nat} {es es':List (Value×AV)} {ents ents':Array MapEntry} {c c':Nat} (hm:(b,AObj.map es)∈σ) (hh:w.heap[b]? =some (.map ents c)):
  Ev σ w (σ.set b (.map es')) {w with heap:=w.heap.setIfInBounds b (.map ents' c')}:=by
 have hlt:b<w.heap.size:=(Array.getElem?_eq_some_iff.1 hh).1
 have hot:∀k,k≠b->(w.heap.setIfInBounds b (.map ents' c'))[k]? =w.heap[k]? :=λk hk=>by simp[Ne.symm hk]
 have hmut:∀o,Mut σ b o:=λo=>⟨_,hm,trivial⟩
 refine⟨rfl,rfl,rfl,by simp,λk hk hn=>⟨hot k (λe=>hn (by rw[e];exact mem_map.2 ⟨_,hm,rfl⟩)),λh=>hn (by rwa [dk]at h)⟩,?_,?_⟩
 ·intro k s hs
  by_cases hk:k=b
  ·subst hk
   simp[World.shape?,hh]at hs
  ·unfold World.shape? at*
   rw[hot k hk]
   exact hs
 ·intro a v hv hn
  by_cases hk:a.block=b
  ·exact absurd (hk ▸ hmut a.off) hn
  ·refine⟨?_,?_⟩
   ·unfold World.cell? at*
    rw[hot _ hk]
    exact hv
   ·rintro⟨x,hx,hxm⟩
    rcases set_sub hx with hx|⟨e,_⟩
    ·exact hn ⟨x,hx,hxm⟩
    ·exact hk e
theorem cV {t:TypeId} (hk:∀b,b∉σ.keys->K (.sc (.map (some b))) ((b,.map [])::σ)):RAW G P (.makeMap t none) env σ K ⟨⟩:=by
 intro ρ w a op ho hS hE
 have hnew:(w.alloc (.map #[] 0)).heap[w.heap.size]? =some (.map #[] 0):=heap_alloc_new w _
 refine⟨.map (some w.heap.size),w.alloc (.map #[] 0),.sc (.map (some w.heap.size)),_,.inl ?_,hk _ (fk hS),hS.alloc _ _ ⟨#[],0,hnew,rfl,by simp[RepL]⟩,Ev.alloc _ _,by simp only[Rep]⟩
 simp[execOp,ho,run_makeMap]
theorem aG (M:MapK P kT val) {xT eT:TypeId} {x ix:Operand} {cm:Bool} {b:Nat} {l:List (κ×AV)} {k:κ} {z:Value} {zv:AV} (hx:(SOpd.of x).eval G env= .sc (.map (some b)))
  (hix:∀τ w v,Rep τ w ((SOpd.of ix).eval G env) v->v=val k) (hu:P.underlying xT=some (.map kT eT)) (hg:σ.get b=some (.map (cl val l))) (hz:(P.info? eT).bind (·.zero)=some z) (hzv:∀τ w,Rep τ w zv z)
  (hk:K (if cm then .tup [(aS k l).getD zv,.bool (aS k l).isSome]else (aS k l).getD zv) σ):RAW G P (.lookup xT x ix cm) env σ K ⟨⟩:=by
 refine cW _ (λρ w a op ho hS hE=>?_) hk
 have h1:=ao hS hE x
 have h2:=hix _ _ _ (ao hS hE ix)
 rw[hx]at h1
 simp only[Rep]at h1
 obtain⟨ents,c,hh,hke,hve⟩:=hS.obj b _ (mem_append.2 (.inl (Store.get_mem hg)))
 have e1:ents.toList.map (·.key)=l.map λp=>val p.1:=by rw[hke];simp[cl]
 have e2:(cl val l).map (·.2)=l.map (·.2):=by simp[cl]
 rw[e2]at hve
 have e3:=M.find k (l.map (·.1)) ents.toList w (by rw[e1];simp)
 have hz':(zeroValue eT).run P w= .ok z w:=by
  obtain⟨i,hi,hiz⟩:=Option.bind_eq_some_iff.1 hz
  have hti:(typeInfo eT).run P w= .ok i w:=run_typeInfo w hi
  simp[zeroValue,hti,hiz]
 have hck:∀em,(Instr.checkKey em 10000 kT (val k)).run P w= .ok () w:=λem=>M.ck em k w
 have hgo:(getObj b).run P w= .ok (.map ents c) w:=by simp[getObj,Sem.run,hh]
 have hso:∀o,(setObj b o).run P w= .ok () {w with heap:=w.heap.setIfInBounds b o}:=λo=>by simp[setObj,Sem.run,hh]
 rcases kO k l ents.toList e1 hve with⟨a1,a2⟩|⟨y,i,e,a1,a2,a3,a4,_,_⟩
 ·refine⟨if cm then .tuple #[z,.bool false]else z,?_,?_⟩
  ·simp[execOp,ho,h1,h2,Instr.lookup,run_underlying hu,hgo,hck,e3,a2,hz']
  ·rw[a1]
   cases cm with
   |false=>simpa using hzv _ _
   |true=>simp only[if_true,Option.getD_none,Option.isSome_none,Rep];exact⟨_,rfl,by simp only[RepL];exact⟨_,_,rfl,hzv _ _,_,_,rfl,by simp only[Rep],rfl⟩⟩
 ·refine⟨if cm then .tuple #[e.val,.bool true]else e.val,?_,?_⟩
  ·simp[execOp,ho,h1,h2,Instr.lookup,run_underlying hu,hgo,hck,e3,a2]
  ·rw[a1]
   cases cm with
   |false=>simpa using a4
   |true=>simp only[if_true,Option.getD_some,Option.isSome_some,Rep];exact⟨_,rfl,by simp only[RepL];exact⟨_,_,rfl,a4,_,_,rfl,by simp only[Rep],rfl⟩⟩
theorem eU (M:MapK P kT val) {xT eT:TypeId} {x ix y:Operand} {b:Nat} {l:List (κ×AV)} {k:κ} {yv:AV} (hx:(SOpd.of x).eval G env= .sc (.map (some b)))
  (hix:∀τ w v,Rep τ w ((SOpd.of ix).eval G env) v->v=val k) (hy:(SOpd.of y).eval G env=yv) (hu:P.underlying xT=some (.map kT eT)) (hg:σ.get b=some (.map (cl val l)))
  (hk:K aC (σ.set b (.map (cl val (dj k yv l))))):RAW G P (.mapUpdate xT x ix y) env σ K ⟨⟩:=by
 intro ρ w a op ho hS hE
 have h1:=ao hS hE x
 have h2:=hix _ _ _ (ao hS hE ix)
 have h3:=ao hS hE y
 rw[hx]at h1
 rw[hy]at h3
 simp only[Rep]at h1
 have hm:=Store.get_mem hg
 obtain⟨ents,c,hh,hke,hve⟩:=hS.obj b _ (mem_append.2 (.inl hm))
 have e1:ents.toList.map (·.key)=l.map λp=>val p.1:=by rw[hke];simp[cl]
 have e2:(cl val l).map (·.2)=l.map (·.2):=by simp[cl]
 rw[e2]at hve
 have e3:=M.find k (l.map (·.1)) ents.toList w (by rw[e1];simp)
 have hlt:b<w.heap.size:=(Array.getElem?_eq_some_iff.1 hh).1
 have fin:∀(ents':Array MapEntry) (c':Nat),ents'.toList.map (·.key)=((dj k yv l).map λp=>val p.1)->RepL (σ++ρ) w ((dj k yv l).map (·.2)) (ents'.toList.map (·.val))->
   Sat G (σ.set b (.map (cl val (dj k yv l)))++ρ) {w with heap:=w.heap.setIfInBounds b (.map ents' c')}/\Ev σ w (σ.set b (.map (cl val (dj k yv l)))) {w with heap:=w.heap.setIfInBounds b (.map ents' c')}:=by
  intro ents' c' g1 g2
  have hev:Ev σ w (σ.set b (.map (cl val (dj k yv l)))) {w with heap:=w.heap.setIfInBounds b (.map ents' c')}:=Ev.setMap hm hh
  refine⟨?_,hev⟩
  have hnd:=hS.nodup_left
  refine hS.step hev (by rw[dk];exact hnd) (λk hk=>.inl (by rwa [dk]at hk)) ?_
  intro k' q hq
  rcases jH hq hnd with⟨rfl,rfl⟩|⟨hne,hq⟩
  ·refine⟨ents',c',by simp[hlt],by rw[g1];simp[cl],?_⟩
   have:=RepL.ev hev _ _ g2
   have e4:(cl val (dj k yv l)).map (·.2)=(dj k yv l).map (·.2):=by simp[cl]
   rw[e4];exact this
  ·exact(hS.obj k' q (mem_append.2 (.inl hq))).keep hev (by simp[Ne.symm hne])
 have hck:∀em,(Instr.checkKey em 10000 kT (val k)).run P w= .ok () w:=λem=>M.ck em k w
 have hgo:(getObj b).run P w= .ok (.map ents c) w:=by simp[getObj,Sem.run,hh]
 have hso:∀o,(setObj b o).run P w= .ok () {w with heap:=w.heap.setIfInBounds b o}:=λo=>by simp[setObj,Sem.run,hh]
 rcases kO k l ents.toList e1 hve with⟨a1,a2⟩|⟨u,i,e,a1,a2,a3,a4,a5,a6⟩
 ·obtain⟨s1,s2⟩:=fin (ents.push {key:=val k,val:=a.eval y,born:=c}) (c+1) (by rw[im a1];simp[e1]) (by
   rw[im a1]
   simp only[map_append,map_cons,map_nil,Array.toList_push]
   exact RepL.append hve (by simp only[RepL];exact⟨_,_,rfl,h3,rfl⟩))
  refine⟨undef,_,aC,_,.inr ⟨?_,rfl⟩,hk,s1,s2,?_⟩
  ·simp[execOp,ho,h1,h2,Instr.mapUpdate,run_underlying hu,hgo,hck,e3,a2,hso]
  ·exact cg _ _
 ·obtain⟨b1,b2⟩:=a6 (a.eval y) yv h3
  have hst:=M.stays k w
  have a3':ents[i]? =some e:=by simpa using a3
  obtain⟨s1,s2⟩:=fin (ents.modify i λe=>{e with key:=val k,val:=a.eval y}) c (by simpa[Array.toList_modify]using b2) (by simpa[Array.toList_modify]using b1)
  refine⟨undef,_,aC,_,.inr ⟨?_,rfl⟩,hk,s1,s2,?_⟩
  ·simp[execOp,ho,h1,h2,Instr.mapUpdate,run_underlying hu,hgo,hck,e3,a2,a3',a5,hst,hso]
  ·exact cg _ _
end
section
variable {P:Program}
theorem n0 {t:TypeId} {fs:Array Field} {ks:List Nat} (hu:P.underlying t=some (.struct fs)) (hf:du P 8 t=some ks) (us vs:Array Value) (r:Bool) (l1:us.size=ks.length) (l2:vs.size=ks.length)
  (h1:eqK ks us.toList vs.toList=some r) (w':World):(Op.equalIn 10000 t (.agg us) (.agg vs)).run P w'= .ok r w':=by
 have hst:P.stoodInHeld t=false/\∃ks',eP (du P 7) fs.toList 0=some ks'/\ks'=ks:=by
  simp only[du,hu]at hf
  split at hf
  ·cases hf
  rename_i hst
  split at hf
  ·rename_i ks' hfs
   split at hf
   ·cases hf;exact⟨by simpa using hst,_,hfs,rfl⟩
   ·cases hf
  ·cases hf
 obtain⟨hst,ks',hfs,rfl⟩:=hst
 have ht:P.underlying t=some (.struct (P.fieldsOf t)):=by simp[Program.fieldsOf,hu]
 have hfo:P.fieldsOf t=fs:=by simp[Program.fieldsOf,hu]
 rw[run_equalIn_struct w' 9999 t _ _ ht hst,hfo]
 exact dJ (flatOk P 7) fs.toList 0 ks' hfs 9998 us vs r (by omega) (by omega) (by omega) (by simpa using h1) w'
def CheckF (P:Program) (em:Bool) (d:Nat):Prop:=
 ∀(t:TypeId) (ks:List Nat),du P d t=some ks->∀(D:Nat) (xs:Array Value) (off:Nat),d<=D->off+ks.length<=xs.size->∀w':World,
  ∃u,(part t xs off).run P w'= .ok u w'/\(Instr.checkKey em D t u).run P w'= .ok () w'
theorem dy {em:Bool} {d:Nat} (hA:CheckF P em d) (D:Nat) (hD:d<=D) (xs:Array Value) (w':World):∀(fs:List Field) (off:Nat) (ks:List Nat),eP (du P d) fs off=some ks->off+ks.length<=xs.size->
  ∀f∈fs,f.name≠ "_" /\∃u,(part f.type xs f.offset).run P w'= .ok u w'/\(Instr.checkKey em D f.type u).run P w'= .ok () w'
 |[],_,_,_,_,f,hf=>by cases hf
 |g::fs,off,ks,h,hx,f,hf=>by
  simp only[eP]at h
  split at h
  ·cases h
  rename_i hnm
  simp at hnm
  split at h
  ·rename_i k1 h1
   split at h
   ·rename_i k2 h2
    cases h
    simp only[length_append]at hx
    rcases mem_cons.1 hf with rfl|hf
    ·exact⟨hnm.1,hA f.type k1 h1 D xs f.offset hD (by rw[hnm.2];omega) w'⟩
    ·exact dy hA D hD xs w' fs _ k2 h2 (by omega) f hf
   ·cases h
  ·cases h
theorem fe {em:Bool} {t:TypeId} {fs:Array Field} (hu:P.underlying t=some (.struct fs)) (D:Nat) (xs:Array Value) (w':World)
  (h:∀f∈fs.toList,f.name≠ "_" /\∃u,(part f.type xs f.offset).run P w'= .ok u w'/\(Instr.checkKey em D f.type u).run P w'= .ok () w'):(Instr.checkKey em (D+1) t (.agg xs)).run P w'= .ok () w':=by
 rw[Instr.checkKey]
 simp only[Sem.run_bind,run_underlying hu,Result.andThen_ok]
 rw[←Array.forIn_toList]
 generalize fs.toList=L at h
 induction L with
 |nil=>simp
 |cons f L ih=>
  obtain⟨hn,a,p1,p2⟩:=h f (by simp)
  simp only[forIn_cons,Sem.run_bind,hn,ne_eq,not_false_eq_true,if_true,Result.andThen_ok,p1,p2,Sem.run_pure]
  exact ih λy hy=>h y (by simp[hy])
theorem checkF (em:Bool):∀d,CheckF P em d
 |0,t,ks,h=>by simp[du]at h
 |d+1,t,ks,h=>by
  intro D xs off hD hx w'
  obtain⟨D',rfl⟩:∃D',D=D'+1:=⟨D-1,by omega⟩
  have one:∀k:TypeDesc,P.underlying t=some k->(k= .bool\/(∃q,k= .int q)\/k= .string)->ks.length=1->∃u,(part t xs off).run P w'= .ok u w'/\(Instr.checkKey em (D'+1) t u).run P w'= .ok () w':=by
   intro k hu hk hl
   refine⟨xs[off]'(by omega),?_,?_⟩
   ·unfold part
    rw[Sem.run_bind,cy hu]
    rcases hk with rfl|⟨q,rfl⟩|rfl<;>simp[aggD,show off<xs.size by omega]
   ·rw[Instr.checkKey]
    simp only[Sem.run_bind,run_underlying hu,Result.andThen_ok]
    rcases hk with rfl|⟨q,rfl⟩|rfl<;>rfl
  simp only[du]at h
  split at h
  ·rename_i hu
   cases h
   exact one _ hu (.inl rfl) rfl
  ·rename_i hu
   cases h
   exact one _ hu (.inr (.inl ⟨_,rfl⟩)) rfl
  ·rename_i hu
   cases h
   exact one _ hu (.inr (.inr rfl)) rfl
  ·rename_i fs hu
   split at h
   ·cases h
   rename_i hst
   split at h
   ·rename_i ks' hfs
    split at h
    ·rename_i hsz
     cases h
     have hsz':bj P t=some ks.length:=by simpa using hsz
     have hag:aggD (.struct fs)=true:=rfl
     refine⟨_,fR hu hsz' xs off (by simp[hag]) hx w',?_⟩
     simp only[hag,if_true]
     refine fe hu D' _ w' (dy (checkF em d) D' (by omega) _ w' fs.toList 0 ks hfs (by simp;omega))
    ·cases h
   ·cases h
  ·cases h
theorem iB (n:Nat) (k:IntKind) (a:Int):Instr.sameBits n (.int k a) (.int k a)=true:=by cases n<;>simp[Instr.sameBits]
theorem mS (n:Nat) (s:ByteArray):Instr.sameBits n (.string s) (.string s)=true:=by
 obtain⟨d⟩:=s
 have h:((⟨d⟩:ByteArray)==⟨d⟩)=true:=by show(d==d)=true;simp
 cases n<;>simp[Instr.sameBits,h]
theorem oc {α:Type}:∀l:List α,l.zip l=l.map λx=>(x,x)
 |[]=>rfl
 |x::l=>by simp[oc l]
theorem l5 {t:TypeId} {fs:Array Field} {ks:List Nat} (hu:P.underlying t=some (.struct fs)) (hf:du P 8 t=some ks) {κ:Type} [DecidableEq κ] (vals:κ->List Value) (hl:∀k,(vals k).length=ks.length)
  (heq:∀a b,eqK ks (vals a) (vals b)=some (decide (a=b))) (hs:∀k,∀v∈vals k,∀n,Instr.sameBits n v v=true):MapK P t (λk=>.agg (vals k).toArray) where
 ck em k w:=by
  have hst:∃ks',eP (du P 7) fs.toList 0=some ks'/\ks'=ks:=by
   simp only[du,hu]at hf
   split at hf
   ·cases hf
   rename_i hst
   split at hf
   ·rename_i ks' hfs
    split at hf
    ·cases hf;exact⟨_,hfs,rfl⟩
    ·cases hf
   ·cases hf
  obtain⟨ks',hfs,rfl⟩:=hst
  exact fe hu 9999 _ w (dy (checkF em 7) 9999 (by omega) _ w fs.toList 0 ks' hfs (by simp[hl]))
 find k l ents w he:=by
  have hq:∀b:κ,(Op.equal t (.agg (vals k).toArray) (.agg (vals b).toArray)).run P w= .ok (decide (k=b)) w:=λb=>
   n0 hu hf _ _ _ (by simp[hl]) (by simp[hl]) (by simpa using heq k b) w
  have main:∀(l:List κ) (ents:List MapEntry) (i:Nat),ents.map (·.key)=l.map (λk=>Value.agg (vals k).toArray)->
    (Instr.findAsking t (.agg (vals k).toArray) ents i).run P w= .ok ((((l.zip ents).zipIdx i).find? λq=>decide (q.1.1=k)).map λq=>(q.2,q.1.2.val)) w:=by
   intro l
   induction l with
   |nil=>
    intro ents i he
    cases ents with
    |nil=>simp[Instr.findAsking]
    |cons e es=>simp at he
   |cons b l ih=>
    intro ents i he
    cases ents with
    |nil=>simp at he
    |cons e es=>
     simp only[map_cons,List.cons.injEq]at he
     simp only[Instr.findAsking,Sem.run_bind,he.1,hq b,Result.andThen_ok,zip_cons_cons,zipIdx_cons,find?_cons]
     by_cases hb:k=b
     ·subst hb;simp
     ·have:decide (b=k)=false:=by simp;exact λe=>hb e.symm
      simp only[decide_eq_false hb,this,Bool.false_eq_true,if_false]
      exact ih es (i+1) he.2
  have h2:(Instr.findKey t (.agg (vals k).toArray) ents).run P w=(Instr.findAsking t (.agg (vals k).toArray) ents 0).run P w:=by
   cases ents with
   |nil=>simp[Instr.findKey,run_underlying hu,Instr.findNow,Instr.findAsking]
   |cons e es=>simp[Instr.findKey,run_underlying hu,Instr.findNow,Instr.sameNow]
  rw[h2]
  exact main l ents 0 he
 stays k w:=by
  have h:Instr.sameBits 10000 (.agg (vals k).toArray) (.agg (vals k).toArray)=true:=by
   simp only[Instr.sameBits,beq_self_eq_true,Bool.true_and,oc,all_map,all_eq_true,Function.comp]
   intro v hv
   exact hs k v (by simpa using hv) _
  simp[Instr.keyThatStays,h]
theorem oN {G:Glob} {env:Env} {σ:Store} {K:AV->Store->Prop} {x:Operand} {tx kT eT:TypeId} {b:Nat} {es:List (Value×AV)} (hx:(SOpd.of x).eval G env= .sc (.map (some b))) (hu:P.underlying tx=some (.map kT eT)) (hg:σ.get b=some (.map es))
  (hk:K (.int .i64 es.length) σ):RAW G P (.call (.mk (.builtin .len) #[x] #[tx])) env σ K ⟨⟩:=by
 refine cW _ (λρ w a op ho hS hE=>?_) hk
 have h1:=ao hS hE x
 rw[hx]at h1
 simp only[Rep]at h1
 obtain⟨ents,c,hh,hke,hve⟩:=hS.obj b _ (mem_append.2 (.inl (Store.get_mem hg)))
 have hl:ents.size=es.length:=by have:=congrArg List.length hke;simpa using this
 refine⟨.int .i64 es.length,?_,by simp only[Rep]⟩
 have hgo:(getObj b).run P w= .ok (.map ents c) w:=by simp[getObj,Sem.run,hh]
 simp[execOp,ho,resolve,invoke,builtin,h1,Builtin.len_,run_underlying hu,hgo,hl]
 rfl
end
end Go.Av
