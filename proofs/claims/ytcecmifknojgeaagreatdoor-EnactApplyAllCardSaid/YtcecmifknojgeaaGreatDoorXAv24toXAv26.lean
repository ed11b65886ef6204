/-
  ABSTRACT VALUES, 24: maps: make, look up, put, length.
-/
import Derived.Test.YtcecmifknojgeaaGreatDoorXAv16toXAv23
import Derived.MapKept
import Derived.Carry
namespace Go.Av
open Go Go.RowKit List
set_option linter.unusedSimpArgs false
set_option linter.unusedVariables false
structure MapK (P:Program) (kT:TypeId) {κ:Type} [DecidableEq κ] (val:κ->Value):Prop where
 ck:∀(em:Bool) (k:κ) (w:World),(Instr.checkKey em 10000 kT (val k)).run P w= .ok () w
 find:∀(k:κ) (ks:List κ) (ents:List MapEntry) (w:World),ents.map (·.key)=ks.map val->
  (Instr.findKey kT (val k) ents).run P w= .ok (((ks.zip ents).zipIdx.find? λq=>decide (q.1.1=k)).map λq=>(q.2,q.1.2.val)) w
 stays:∀(k:κ) (w:World),(Instr.keyThatStays (val k) (val k)).run P w= .ok (val k) w
def aX {κ:Type} [DecidableEq κ] (k:κ):List (κ×AV)->Option AV
 |[]=>none
 |p::l=>if p.1=k then some p.2 else aX k l
def dD {κ:Type} [DecidableEq κ] (k:κ) (x:AV):List (κ×AV)->List (κ×AV)
 |[]=>[(k,x)]
 |p::l=>if p.1=k then (p.1,x)::l else p::dD k x l
def cJ {κ:Type} (val:κ->Value) (l:List (κ×AV)):List (Value×AV):=l.map λp=>(val p.1,p.2)
section
variable {G:Glob} {P:Program} {env:Env} {σ:Store} {K:AV->Store->Prop} {κ:Type} [DecidableEq κ] {kT:TypeId} {val:κ->Value}
theorem iN {α:Type} (p:α->Bool):∀(l:List α) (n:Nat),((l.zipIdx (n+1)).find? λq=>p q.1)=((l.zipIdx n).find? λq=>p q.1).map λq=>(q.1,q.2+1)
 |[],n=>rfl
 |a::l,n=>by
  simp only[zipIdx_cons,find?_cons]
  cases h:p a with
  |true=>simp
  |false=>simp only[];exact iN p l (n+1)
theorem lp {τ:Store} {w:World} (k:κ):∀(l:List (κ×AV)) (ents:List MapEntry),ents.map (·.key)=(l.map λp=>val p.1)->RepL τ w (l.map (·.2)) (ents.map (·.val))->
  (aX k l=none/\(((l.map (·.1)).zip ents).zipIdx.find? λq=>decide (q.1.1=k))=none)\/
  ∃x i e,aX k l=some x/\(((l.map (·.1)).zip ents).zipIdx.find? λq=>decide (q.1.1=k))=some ((k,e),i)/\ents[i]? =some e/\Rep τ w x e.val/\e.key=val k/\
   (∀v y,Rep τ w y v->RepL τ w ((dD k y l).map (·.2)) ((ents.modify i λe=>{e with key:=val k,val:=v}).map (·.val))/\(ents.modify i λe=>{e with key:=val k,val:=v}).map (·.key)=(dD k y l).map λp=>val p.1)
 |[],ents,hk,hr=>.inl ⟨rfl,by simp⟩
 |p::l,[],hk,hr=>by simp at hk
 |p::l,e::ents,hk,hr=>by
  simp only[map_cons,List.cons.injEq]at hk
  simp only[map_cons,RepL]at hr
  obtain⟨u,us,h1,h2,h3⟩:=hr
  injection h1 with h1 h1'
  subst h1 h1'
  by_cases hp:p.1=k
  ·right
   subst hp
   refine⟨p.2,0,e,by simp[aX],by simp[zipIdx_cons],rfl,h2,hk.1,λv y hy=>?_⟩
   simp only[dD,if_true,modify_zero_cons,map_cons,RepL]
   exact⟨⟨v,_,rfl,hy,h3⟩,by rw[hk.2]⟩
  ·rcases lp k l ents hk.2 h3 with⟨a1,a2⟩|⟨x,i,e',a1,a2,a3,a4,a5,a6⟩
   ·left
    refine⟨by simp[aX,hp,a1],?_⟩
    simp only[map_cons,zip_cons_cons,zipIdx_cons,find?_cons,hp,decide_false]
    have:=iN (λq:κ×MapEntry=>decide (q.1=k)) ((l.map (·.1)).zip ents) 0
    rw[Nat.zero_add]at*
    rw[this,a2];rfl
   ·right
    refine⟨x,i+1,e',by simp[aX,hp,a1],?_,by simpa using a3,a4,a5,λv y hy=>?_⟩
    ·simp only[map_cons,zip_cons_cons,zipIdx_cons,find?_cons,hp,decide_false]
     have:=iN (λq:κ×MapEntry=>decide (q.1=k)) ((l.map (·.1)).zip ents) 0
     rw[Nat.zero_add]at*
     rw[this,a2];rfl
    ·obtain⟨b1,b2⟩:=a6 v y hy
     simp only[dD,if_neg hp,modify_succ_cons,map_cons,RepL]
     exact⟨⟨_,_,rfl,h2,b1⟩,by rw[hk.1,b2]⟩
theorem iF {k:κ} {x:AV}:∀{l:List (κ×AV)},aX k l=none->dD k x l=l++[(k,x)]
 |[],_=>rfl
 |p::l,h=>by
  simp only[aX]at h
  split at h
  ·cases h
  ·rename_i hp
   simp only[dD,if_neg hp,cons_append,iF h]
theorem set_sub {b k:Nat} {y z:AObj}:∀{σ:Store},(k,z)∈σ.set b y->(k,z)∈σ\/(k=b/\z=y)
 |[],h=>by simp[Store.set]at h
 |(k0,x0)::s,h=>by
  simp only[Store.set]at h
  split at h
  ·rename_i hk
   rcases mem_cons.1 h with h|h
   ·cases h;exact .inr ⟨hk,rfl⟩
   ·exact .inl (mem_cons_of_mem _ h)
  ·rcases mem_cons.1 h with h|h
   ·cases h;exact .inl (by simp)
   ·rcases set_sub h with h|h
    ·exact .inl (mem_cons_of_mem _ h)
    ·exact .inr h
theorem Ev.setMap {w:World} {b:Nat} {es es':List (Value×AV)} {ents ents':Array MapEntry} {c c':Nat} (hm:(b,AObj.map es)∈σ) (hh:w.heap[b]? =some (.map ents c)):
  Ev σ w (σ.set b (.map es')) {w with heap:=w.heap.setIfInBounds b (.map ents' c')}:=by
 have hlt:b<w.heap.size:=(Array.getElem?_eq_some_iff.1 hh).1
 have hot:∀k,k≠b->(w.heap.setIfInBounds b (.map ents' c'))[k]? =w.heap[k]? :=λk hk=>by simp[Ne.symm hk]
 have hmut:∀o,Mut σ b o:=λo=>⟨_,hm,trivial⟩
 refine⟨rfl,rfl,rfl,by simp,λk hk hn=>⟨hot k (λe=>hn (by rw[e];exact mem_map.2 ⟨_,hm,rfl⟩)),λh=>hn (by rwa [dE]at h)⟩,?_,?_⟩
 ·intro k s hs
  by_cases hk:k=b
  ·subst hk
   simp[World.shape?,hh]at hs
  ·unfold World.shape? at*
   rw[hot k hk]
   exact hs
 ·intro a v hv hn
  by_cases hk:a.block=b
  ·exact absurd (hk ▸ hmut a.off) hn
  ·refine⟨?_,?_⟩
   ·unfold World.cell? at*
    rw[hot _ hk]
    exact hv
   ·rintro⟨x,hx,hxm⟩
    rcases set_sub hx with hx|⟨e,_⟩
    ·exact hn ⟨x,hx,hxm⟩
    ·exact hk e
theorem ep {t:TypeId} (hk:∀b,b∉σ.keys->K (.sc (.map (some b))) ((b,.map [])::σ)):RAW G P (.makeMap t none) env σ K ⟨⟩:=by
 intro ρ w a op ho hS hE
 have hnew:(w.alloc (.map #[] 0)).heap[w.heap.size]? =some (.map #[] 0):=heap_alloc_new w _
 refine⟨.map (some w.heap.size),w.alloc (.map #[] 0),.sc (.map (some w.heap.size)),_,.inl ?_,hk _ (fH hS),hS.alloc _ _ ⟨#[],0,hnew,rfl,by simp[RepL]⟩,Ev.alloc _ _,by simp only[Rep]⟩
 simp[execOp,ho,run_makeMap]
theorem aI (M:MapK P kT val) {xT eT:TypeId} {x ix:Operand} {cm:Bool} {b:Nat} {l:List (κ×AV)} {k:κ} {z:Value} {zv:AV} (hx:(SOpd.of x).eval G env= .sc (.map (some b)))
  (hix:∀τ w v,Rep τ w ((SOpd.of ix).eval G env) v->v=val k) (hu:P.underlying xT=some (.map kT eT)) (hg:σ.get b=some (.map (cJ val l))) (hz:(P.info? eT).bind (·.zero)=some z) (hzv:∀τ w,Rep τ w zv z)
  (hk:K (if cm then .tup [(aX k l).getD zv,.bool (aX k l).isSome]else (aX k l).getD zv) σ):RAW G P (.lookup xT x ix cm) env σ K ⟨⟩:=by
 refine dw _ (λρ w a op ho hS hE=>?_) hk
 have h1:=ar hS hE x
 have h2:=hix _ _ _ (ar hS hE ix)
 rw[hx]at h1
 simp only[Rep]at h1
 obtain⟨ents,c,hh,hke,hve⟩:=hS.obj b _ (mem_append.2 (.inl (Store.get_mem hg)))
 have e1:ents.toList.map (·.key)=l.map λp=>val p.1:=by rw[hke];simp[cJ]
 have e2:(cJ val l).map (·.2)=l.map (·.2):=by simp[cJ]
 rw[e2]at hve
 have e3:=M.find k (l.map (·.1)) ents.toList w (by rw[e1];simp)
 have hz':(zeroValue eT).run P w= .ok z w:=by
  obtain⟨i,hi,hiz⟩:=Option.bind_eq_some_iff.1 hz
  have hti:(typeInfo eT).run P w= .ok i w:=run_typeInfo w hi
  simp[zeroValue,hti,hiz]
 have hck:∀em,(Instr.checkKey em 10000 kT (val k)).run P w= .ok () w:=λem=>M.ck em k w
 have hgo:(getObj b).run P w= .ok (.map ents c) w:=by simp[getObj,Sem.run,hh]
 have hso:∀o,(setObj b o).run P w= .ok () {w with heap:=w.heap.setIfInBounds b o}:=λo=>by simp[setObj,Sem.run,hh]
 rcases lp k l ents.toList e1 hve with⟨a1,a2⟩|⟨y,i,e,a1,a2,a3,a4,_,_⟩
 ·refine⟨if cm then .tuple #[z,.bool false]else z,?_,?_⟩
  ·simp[execOp,ho,h1,h2,Instr.lookup,run_underlying hu,hgo,hck,e3,a2,hz']
  ·rw[a1]
   cases cm with
   |false=>simpa using hzv _ _
   |true=>simp only[if_true,Option.getD_none,Option.isSome_none,Rep];exact⟨_,rfl,by simp only[RepL];exact⟨_,_,rfl,hzv _ _,_,_,rfl,by simp only[Rep],rfl⟩⟩
 ·refine⟨if cm then .tuple #[e.val,.bool true]else e.val,?_,?_⟩
  ·simp[execOp,ho,h1,h2,Instr.lookup,run_underlying hu,hgo,hck,e3,a2]
  ·rw[a1]
   cases cm with
   |false=>simpa using a4
   |true=>simp only[if_true,Option.getD_some,Option.isSome_some,Rep];exact⟨_,rfl,by simp only[RepL];exact⟨_,_,rfl,a4,_,_,rfl,by simp only[Rep],rfl⟩⟩
theorem ed (M:MapK P kT val) {xT eT:TypeId} {x ix y:Operand} {b:Nat} {l:List (κ×AV)} {k:κ} {yv:AV} (hx:(SOpd.of x).eval G env= .sc (.map (some b)))
  (hix:∀τ w v,Rep τ w ((SOpd.of ix).eval G env) v->v=val k) (hy:(SOpd.of y).eval G env=yv) (hu:P.underlying xT=some (.map kT eT)) (hg:σ.get b=some (.map (cJ val l)))
  (hk:K aE (σ.set b (.map (cJ val (dD k yv l))))):RAW G P (.mapUpdate xT x ix y) env σ K ⟨⟩:=by
 intro ρ w a op ho hS hE
 have h1:=ar hS hE x
 have h2:=hix _ _ _ (ar hS hE ix)
 have h3:=ar hS hE y
 rw[hx]at h1
 rw[hy]at h3
 simp only[Rep]at h1
 have hm:=Store.get_mem hg
 obtain⟨ents,c,hh,hke,hve⟩:=hS.obj b _ (mem_append.2 (.inl hm))
 have e1:ents.toList.map (·.key)=l.map λp=>val p.1:=by rw[hke];simp[cJ]
 have e2:(cJ val l).map (·.2)=l.map (·.2):=by simp[cJ]
 rw[e2]at hve
 have e3:=M.find k (l.map (·.1)) ents.toList w (by rw[e1];simp)
 have hlt:b<w.heap.size:=(Array.getElem?_eq_some_iff.1 hh).1
 have fin:∀(ents':Array MapEntry) (c':Nat),ents'.toList.map (·.key)=((dD k yv l).map λp=>val p.1)->RepL (σ++ρ) w ((dD k yv l).map (·.2)) (ents'.toList.map (·.val))->
   Sat G (σ.set b (.map (cJ val (dD k yv l)))++ρ) {w with heap:=w.heap.setIfInBounds b (.map ents' c')}/\Ev σ w (σ.set b (.map (cJ val (dD k yv l)))) {w with heap:=w.heap.setIfInBounds b (.map ents' c')}:=by
  intro ents' c' g1 g2
  have hev:Ev σ w (σ.set b (.map (cJ val (dD k yv l)))) {w with heap:=w.heap.setIfInBounds b (.map ents' c')}:=Ev.setMap hm hh
  refine⟨?_,hev⟩
  have hnd:=hS.nodup_left
  refine hS.step hev (by rw[dE];exact hnd) (λk hk=>.inl (by rwa [dE]at hk)) ?_
  intro k' q hq
  rcases j2 hq hnd with⟨rfl,rfl⟩|⟨hne,hq⟩
  ·refine⟨ents',c',by simp[hlt],by rw[g1];simp[cJ],?_⟩
   have:=RepL.ev hev _ _ g2
   have e4:(cJ val (dD k yv l)).map (·.2)=(dD k yv l).map (·.2):=by simp[cJ]
   rw[e4];exact this
  ·exact(hS.obj k' q (mem_append.2 (.inl hq))).keep hev (by simp[Ne.symm hne])
 have hck:∀em,(Instr.checkKey em 10000 kT (val k)).run P w= .ok () w:=λem=>M.ck em k w
 have hgo:(getObj b).run P w= .ok (.map ents c) w:=by simp[getObj,Sem.run,hh]
 have hso:∀o,(setObj b o).run P w= .ok () {w with heap:=w.heap.setIfInBounds b o}:=λo=>by simp[setObj,Sem.run,hh]
 rcases lp k l ents.toList e1 hve with⟨a1,a2⟩|⟨u,i,e,a1,a2,a3,a4,a5,a6⟩
 ·obtain⟨s1,s2⟩:=fin (ents.push {key:=val k,val:=a.eval y,born:=c}) (c+1) (by rw[iF a1];simp[e1]) (by
   rw[iF a1]
   simp only[map_append,map_cons,map_nil,Array.toList_push]
   exact RepL.append hve (by simp only[RepL];exact⟨_,_,rfl,h3,rfl⟩))
  refine⟨undef,_,aE,_,.inr ⟨?_,rfl⟩,hk,s1,s2,?_⟩
  ·simp[execOp,ho,h1,h2,Instr.mapUpdate,run_underlying hu,hgo,hck,e3,a2,hso]
  ·exact cx _ _
 ·obtain⟨b1,b2⟩:=a6 (a.eval y) yv h3
  have hst:=M.stays k w
  have a3':ents[i]? =some e:=by simpa using a3
  obtain⟨s1,s2⟩:=fin (ents.modify i λe=>{e with key:=val k,val:=a.eval y}) c (by simpa[Array.toList_modify]using b2) (by simpa[Array.toList_modify]using b1)
  refine⟨undef,_,aE,_,.inr ⟨?_,rfl⟩,hk,s1,s2,?_⟩
  ·simp[execOp,ho,h1,h2,Instr.mapUpdate,run_underlying hu,hgo,hck,e3,a2,a3',a5,hst,hso]
  ·exact cx _ _
end
section
variable {P:Program}
theorem nV {t:TypeId} {fs:Array Field} {ks:List Nat} (hu:P.underlying t=some (.struct fs)) (hf:dL P 8 t=some ks) (us vs:Array Value) (r:Bool) (l1:us.size=ks.length) (l2:vs.size=ks.length)
  (h1:eqK ks us.toList vs.toList=some r) (w':World):(Op.equalIn 10000 t (.agg us) (.agg vs)).run P w'= .ok r w':=by
 have hst:P.stoodInHeld t=false/\∃ks',fz (dL P 7) fs.toList 0=some ks'/\ks'=ks:=by
  simp only[dL,hu]at hf
  split at hf
  ·cases hf
  rename_i hst
  split at hf
  ·rename_i ks' hfs
   split at hf
   ·cases hf;exact⟨by simpa using hst,_,hfs,rfl⟩
   ·cases hf
  ·cases hf
 obtain⟨hst,ks',hfs,rfl⟩:=hst
 have ht:P.underlying t=some (.struct (P.fieldsOf t)):=by simp[Program.fieldsOf,hu]
 have hfo:P.fieldsOf t=fs:=by simp[Program.fieldsOf,hu]
 rw[run_equalIn_struct w' 9999 t _ _ ht hst,hfo]
 exact eh (flatOk P 7) fs.toList 0 ks' hfs 9998 us vs r (by omega) (by omega) (by omega) (by simpa using h1) w'
def CheckF (P:Program) (em:Bool) (d:Nat):Prop:=
 ∀(t:TypeId) (ks:List Nat),dL P d t=some ks->∀(D:Nat) (xs:Array Value) (off:Nat),d<=D->off+ks.length<=xs.size->∀w':World,
  ∃u,(part t xs off).run P w'= .ok u w'/\(Instr.checkKey em D t u).run P w'= .ok () w'
theorem d5 {em:Bool} {d:Nat} (hA:CheckF P em d) (D:Nat) (hD:d<=D) (xs:Array Value) (w':World):∀(fs:List Field) (off:Nat) (ks:List Nat),fz (dL P d) fs off=some ks->off+ks.length<=xs.size->
  ∀f∈fs,f.name≠ "_" /\∃u,(part f.type xs f.offset).run P w'= .ok u w'/\(Instr.checkKey em D f.type u).run P w'= .ok () w'
 |[],_,_,_,_,f,hf=>by cases hf
 |g::fs,off,ks,h,hx,f,hf=>by
  simp only[fz]at h
  split at h
  ·cases h
  rename_i hnm
  simp at hnm
  split at h
  ·rename_i k1 h1
   split at h
   ·rename_i k2 h2
    cases h
    simp only[length_append]at hx
    rcases mem_cons.1 hf with rfl|hf
    ·exact⟨hnm.1,hA f.type k1 h1 D xs f.offset hD (by rw[hnm.2];omega) w'⟩
    ·exact d5 hA D hD xs w' fs _ k2 h2 (by omega) f hf
   ·cases h
  ·cases h
theorem fG {em:Bool} {t:TypeId} {fs:Array Field} (hu:P.underlying t=some (.struct fs)) (D:Nat) (xs:Array Value) (w':World)
  (h:∀f∈fs.toList,f.name≠ "_" /\∃u,(part f.type xs f.offset).run P w'= .ok u w'/\(Instr.checkKey em D f.type u).run P w'= .ok () w'):(Instr.checkKey em (D+1) t (.agg xs)).run P w'= .ok () w':=by
 rw[Instr.checkKey]
 simp only[Sem.run_bind,run_underlying hu,Result.andThen_ok]
 rw[←Array.forIn_toList]
 generalize fs.toList=L at h
 induction L with
 |nil=>simp
 |cons f L ih=>
  obtain⟨hn,a,p1,p2⟩:=h f (by simp)
  simp only[forIn_cons,Sem.run_bind,hn,ne_eq,not_false_eq_true,if_true,Result.andThen_ok,p1,p2,Sem.run_pure]
  exact ih λy hy=>h y (by simp[hy])
theorem checkF (em:Bool):∀d,CheckF P em d
 |0,t,ks,h=>by simp[dL]at h
 |d+1,t,ks,h=>by
  intro D xs off hD hx w'
  obtain⟨D',rfl⟩:∃D',D=D'+1:=⟨D-1,by omega⟩
  have one:∀k:TypeDesc,P.underlying t=some k->(k= .bool\/(∃q,k= .int q)\/k= .string)->ks.length=1->∃u,(part t xs off).run P w'= .ok u w'/\(Instr.checkKey em (D'+1) t u).run P w'= .ok () w':=by
   intro k hu hk hl
   refine⟨xs[off]'(by omega),?_,?_⟩
   ·unfold part
    rw[Sem.run_bind,cN hu]
    rcases hk with rfl|⟨q,rfl⟩|rfl<;>simp[aggD,show off<xs.size by omega]
   ·rw[Instr.checkKey]
    simp only[Sem.run_bind,run_underlying hu,Result.andThen_ok]
    rcases hk with rfl|⟨q,rfl⟩|rfl<;>rfl
  simp only[dL]at h
  split at h
  ·rename_i hu
   cases h
   exact one _ hu (.inl rfl) rfl
  ·rename_i hu
   cases h
   exact one _ hu (.inr (.inl ⟨_,rfl⟩)) rfl
  ·rename_i hu
   cases h
   exact one _ hu (.inr (.inr rfl)) rfl
  ·rename_i fs hu
   split at h
   ·cases h
   rename_i hst
   split at h
   ·rename_i ks' hfs
    split at h
    ·rename_i hsz
     cases h
     have hsz':bc P t=some ks.length:=by simpa using hsz
     have hag:aggD (.struct fs)=true:=rfl
     refine⟨_,gq hu hsz' xs off (by simp[hag]) hx w',?_⟩
     simp only[hag,if_true]
     refine fG hu D' _ w' (d5 (checkF em d) D' (by omega) _ w' fs.toList 0 ks hfs (by simp;omega))
    ·cases h
   ·cases h
  ·cases h
theorem jj (n:Nat) (k:IntKind) (a:Int):Instr.sameBits n (.int k a) (.int k a)=true:=by cases n<;>simp[Instr.sameBits]
theorem mI (n:Nat) (s:ByteArray):Instr.sameBits n (.string s) (.string s)=true:=by
 obtain⟨d⟩:=s
 have h:((⟨d⟩:ByteArray)==⟨d⟩)=true:=by show(d==d)=true;simp
 cases n<;>simp[Instr.sameBits,h]
theorem oJ {α:Type}:∀l:List α,l.zip l=l.map λx=>(x,x)
 |[]=>rfl
 |x::l=>by simp[oJ l]
theorem md {t:TypeId} {fs:Array Field} {ks:List Nat} (hu:P.underlying t=some (.struct fs)) (hf:dL P 8 t=some ks) {κ:Type} [DecidableEq κ] (vals:κ->List Value) (hl:∀k,(vals k).length=ks.length)
  (heq:∀a b,eqK ks (vals a) (vals b)=some (decide (a=b))) (hs:∀k,∀v∈vals k,∀n,Instr.sameBits n v v=true):MapK P t (λk=>.agg (vals k).toArray) where
 ck em k w:=by
  have hst:∃ks',fz (dL P 7) fs.toList 0=some ks'/\ks'=ks:=by
   simp only[dL,hu]at hf
   split at hf
   ·cases hf
   rename_i hst
   split at hf
   ·rename_i ks' hfs
    split at hf
    ·cases hf;exact⟨_,hfs,rfl⟩
    ·cases hf
   ·cases hf
  obtain⟨ks',hfs,rfl⟩:=hst
  exact fG hu 9999 _ w (d5 (checkF em 7) 9999 (by omega) _ w fs.toList 0 ks' hfs (by simp[hl]))
 find k l ents w he:=by
  have hq:∀b:κ,(Op.equal t (.agg (vals k).toArray) (.agg (vals b).toArray)).run P w= .ok (decide (k=b)) w:=λb=>
   nV hu hf _ _ _ (by simp[hl]) (by simp[hl]) (by simpa using heq k b) w
  have main:∀(l:List κ) (ents:List MapEntry) (i:Nat),ents.map (·.key)=l.map (λk=>Value.agg (vals k).toArray)->
    (Instr.findAsking t (.agg (vals k).toArray) ents i).run P w= .ok ((((l.zip ents).zipIdx i).find? λq=>decide (q.1.1=k)).map λq=>(q.2,q.1.2.val)) w:=by
   intro l
   induction l with
   |nil=>
    intro ents i he
    cases ents with
    |nil=>simp[Instr.findAsking]
    |cons e es=>simp at he
   |cons b l ih=>
    intro ents i he
    cases ents with
    |nil=>simp at he
    |cons e es=>
     simp only[map_cons,List.cons.injEq]at he
     simp only[Instr.findAsking,Sem.run_bind,he.1,hq b,Result.andThen_ok,zip_cons_cons,zipIdx_cons,find?_cons]
     by_cases hb:k=b
     ·subst hb;simp
     ·have:decide (b=k)=false:=by simp;exact λe=>hb e.symm
      simp only[decide_eq_false hb,this,Bool.false_eq_true,if_false]
      exact ih es (i+1) he.2
  have h2:(Instr.findKey t (.agg (vals k).toArray) ents).run P w=(Instr.findAsking t (.agg (vals k).toArray) ents 0).run P w:=by
   cases ents with
   |nil=>simp[Instr.findKey,run_underlying hu,Instr.findNow,Instr.findAsking]
   |cons e es=>simp[Instr.findKey,run_underlying hu,Instr.findNow,Instr.sameNow]
  rw[h2]
  exact main l ents 0 he
 stays k w:=by
  have h:Instr.sameBits 10000 (.agg (vals k).toArray) (.agg (vals k).toArray)=true:=by
   simp only[Instr.sameBits,beq_self_eq_true,Bool.true_and,oJ,all_map,all_eq_true,Function.comp]
   intro v hv
   exact hs k v (by simpa using hv) _
  simp[Instr.keyThatStays,h]
theorem oT {G:Glob} {env:Env} {σ:Store} {K:AV->Store->Prop} {x:Operand} {tx kT eT:TypeId} {b:Nat} {es:List (Value×AV)} (hx:(SOpd.of x).eval G env= .sc (.map (some b))) (hu:P.underlying tx=some (.map kT eT)) (hg:σ.get b=some (.map es))
  (hk:K (.int .i64 es.length) σ):RAW G P (.call (.mk (.builtin .len) #[x] #[tx])) env σ K ⟨⟩:=by
 refine dw _ (λρ w a op ho hS hE=>?_) hk
 have h1:=ar hS hE x
 rw[hx]at h1
 simp only[Rep]at h1
 obtain⟨ents,c,hh,hke,hve⟩:=hS.obj b _ (mem_append.2 (.inl (Store.get_mem hg)))
 have hl:ents.size=es.length:=by have:=congrArg List.length hke;simpa using this
 refine⟨.int .i64 es.length,?_,by simp only[Rep]⟩
 have hgo:(getObj b).run P w= .ok (.map ents c) w:=by simp[getObj,Sem.run,hh]
 simp[execOp,ho,resolve,invoke,builtin,h1,Builtin.len_,run_underlying hu,hgo,hl]
 rfl
end
def la (v:Value):Prop:=v= .slice none 0 0\/∃a,v= .slice (some a) 0 0
theorem jU {b:Nat} {x y:AObj}:∀{σ:Store},b∈σ.keys->(b,y)∈σ.set b y
 |[],h=>by simp[Store.keys]at h
 |(k,z)::σ,h=>by
  simp only[Store.set]
  by_cases hk:k=b
  ·rw[if_pos hk,hk];simp
  ·rw[if_neg hk]
   simp only[Store.keys,map_cons,mem_cons]at h
   rcases h with h|h
   ·exact absurd h.symm hk
   ·exact mem_cons_of_mem _ (jU (x:=x) h)
theorem io {b:Nat} {y:AObj}:∀{σ:Store} {q:Nat×AObj},q∈σ->q.1≠b->q∈σ.set b y
 |[],q,h,_=>by cases h
 |(k,z)::σ,q,h,hq=>by
  simp only[Store.set]
  rcases mem_cons.1 h with rfl|h
  ·rw[if_neg hq];simp
  ·split
   ·exact mem_cons_of_mem _ h
   ·exact mem_cons_of_mem _ (io h hq)
theorem set_subN {σ:Store} {b:Nat} {x:AObj} (hb:b∈σ.keys):SubN ((b,x)::σ.erase (some b)) (σ.set b x):=by
 refine⟨λq hq=>?_,λhn=>?_⟩
 ·rcases mem_cons.1 hq with rfl|hq
  ·exact jU (x:=x) hb
  ·have h2:=mem_filter.1 hq
   exact io h2.1 (by simpa using h2.2)
 ·rw[dE]at hn
  simp only[Store.keys,map_cons,nodup_cons]
  exact⟨cP σ b,(cd σ (some b)).2 hn⟩
def WS (σ:Store) (e:TypeId) (sz:Nat) (xv:AV) (rows:List (List AV)) (g:Option Nat):Prop:=
 (rows=[]/\g=none/\(xv= .nil\/∃v,xv= .sc v/\la v))\/
 ∃b cap pad,g=some b/\xv= .sc (.slice (some ⟨b,0,none⟩) rows.length cap)/\σ.get b=some (.cells e (rows.flatten++pad))/\(∀r∈rows,r.length=sz)/\(rows.flatten++pad).length=cap*sz/\rows.length<=cap/\cap<=maxLen
section
variable {G:Glob} {P:Program} {σ ρ:Store} {w:World} {env:Env} {K:AV->Store->Prop}
theorem RepL.any:∀(τ:Store) (w:World) (us:List Value),RepL τ w (List.replicate us.length .any) us
 |_,_,[]=>by simp[RepL]
 |τ,w,u::us=>by simp only[length_cons,replicate_succ,RepL];exact⟨u,us,rfl,by simp only[Rep],RepL.any τ w us⟩
theorem oe {t tx ty e e':TypeId} {i:TypeInfo} {z:List AV} {x y:Operand} {rows ys:List (List AV)} {g:Option Nat} {xv:AV}
  (hu:P.underlying t=some (.slice e)) (hk:P.underlying tx=some (.slice e')) (hi:P.info? e=some i) (hz:cX P e=some z) (hzl:z.length=i.size) (hpos:i.size≠0) (hb0:i.bytes≠0)
  (hxv:(SOpd.of x).eval G env=xv) (hW:WS σ e i.size xv rows g) (hys:srcX i.size ((SOpd.of y).eval G env) λl=>l=ys) (hbytes:(rows.length+ys.length)*i.bytes<=140737488355328)
  (hk0:rows=[]->ys=[]->K xv σ)
  (hk1:∀b cap pad,b∉(σ.erase g).keys->(rows++ys).length<=cap->cap<=maxLen->(∀r∈rows++ys,r.length=i.size)->((rows++ys).flatten++pad).length=cap*i.size->
   K (.sc (.slice (some ⟨b,0,none⟩) (rows++ys).length cap)) ((b,.cells e ((rows++ys).flatten++pad))::σ.erase g)):RAW G P (.call (.mk (.builtin .append) #[x,y] #[t,tx])) env σ K ⟨⟩:=by
 intro ρ w a o ho hS hE
 have hx:=ar (G:=G) hS hE x
 have hy:=ar (G:=G) hS hE y
 rw[hxv]at hx
 obtain⟨i',zv,hi',hzv,hzr,hz1⟩:=cW (τ:=σ++ρ) (w:=w) hz
 rw[hi]at hi';cases hi'
 have hzs:zv.cells.size=i.size:=by have:=hzr.length;simp at this;omega
 have hop:∀{v:Value} {w':World},(Builtin.append_ #[t,tx] o.type #[a.eval x,a.eval y]).run P w= .ok v w'->(execOp a.eval o).run P w= .ok (.value v) w':=by
  intro v w' hr
  simp[execOp,ho,resolve,invoke,builtin,hr]
 obtain⟨ys',news,rfl,hsrc,hrn,hyl⟩:=srcX_ok hk hy hys
 have hnl:=hsrc.newsLen
 have hlen63:rows.length+ys'.length<=maxLen:=by
  have:=Nat.le_mul_of_pos_right (rows.length+ys'.length) (Nat.pos_of_ne_zero hb0)
  unfold maxLen;omega
 have hlen:(rows++ys').length=rows.length+ys'.length:=by simp
 have grow:∀(base:Option Addr) (cap:Nat) (olds:List Value),a.eval x= .slice base rows.length cap->olds.length=rows.length*i.size->RepL (σ++ρ) w rows.flatten olds->(∀v∈olds,v.oneCell'=true)->(∀r∈rows,r.length=i.size)->
   (Builtin.firstCells i.size rows.length (.slice base rows.length cap)).run P w.drew= .ok olds.toArray w.drew->cap<rows.length+ys'.length->
   ∃v w' r σ',((execOp a.eval o).run P w= .ok (.value v) w'\/(execOp a.eval o).run P w= .ok .skip w'/\v=undef)/\K r σ'/\Sat G (σ'++ρ) w'/\Ev σ w σ' w'/\Rep (σ'++ρ) w' r v:=by
  intro base cap olds hv hol hro ho1 hrl hfc hlt
  have hr:=run_append_grow_src (P:=P) w t tx o.type e i zv hu hi hzv base rows.length cap olds hfc (a.eval y) ys'.length news hsrc hlt (by unfold maxLen at hlen63;omega) (growslice_fits hlt hbytes)
  rw[←hv]at hr
  have hge:=grownCap_ge w (rows.length+ys'.length) cap e
  have hcm:=grownCap_le_maxLen w (rows.length+ys'.length) cap e hlen63
  generalize grownCap w (rows.length+ys'.length) cap e=c2 at hr hge hcm
  let C:Array Value:=(olds++news).toArray++Builtin.zeroCells zv.cells (c2-(rows.length+ys'.length))
  have hCs:C.size=c2*i.size:=by
   simp only[C,Array.size_append,size_toArray,length_append,hol,hnl,size_zeroCells,hzs,←Nat.add_mul]
   congr 1;omega
  have hBe:w.heap.size∉(σ.erase g).keys:=λhm=>Nat.lt_irrefl _ (hS.lt_left (cM (cd σ g).1 hm))
  let Z:=(Builtin.zeroCells zv.cells (c2-(rows.length+ys'.length))).toList
  have hrl2:∀r∈rows++ys',r.length=i.size:=λr hr=>by rcases mem_append.1 hr with hr|hr<;>first|exact hrl r hr|exact hyl r hr
  have hfl:=ax _ hrl2
  have hk2:=hk1 w.heap.size c2 (List.replicate Z.length .any) hBe (by rw[hlen];exact hge) hcm hrl2 (by
   have:Z.length=(c2-(rows.length+ys'.length))*i.size:=by simp[Z,size_zeroCells,hzs]
   rw[length_append,hfl,length_replicate,this,hlen,←Nat.add_mul]
   congr 1;omega)
  have s1:Sat G (σ.erase g++ρ) w:=hS.subN (cd σ g)
  have s2:Sat G (σ.erase g++ρ) w.drew:=s1.step Ev.drew s1.nodup_left (λb hb=>.inl hb) (λb q hq=>(s1.obj b q (mem_append.2 (.inl hq))).keep Ev.drew rfl)
  have ev1:Ev σ w (σ.erase g) w.drew:=(Ev.of_sub (cd σ g).1 w).trans Ev.drew
  have ev2:Ev (σ.erase g) w.drew ((w.heap.size,.cells e ((rows++ys').flatten++List.replicate Z.length .any))::σ.erase g) (w.drew.alloc (.cells C e)):=Ev.alloc (σ:=σ.erase g) (w:=w.drew) _ _
  have ev:=ev1.trans ev2
  have s3:=s2.alloc (.cells C e) (.cells e ((rows++ys').flatten++List.replicate Z.length .any)) ⟨C,heap_alloc_new w.drew _,by
    intro v hv
    simp only[C,Array.toList_append,mem_append]at hv
    rcases hv with(hv|hv)|hv
    ·exact ho1 v hv
    ·exact hsrc.one v hv
    ·exact hz1 _ (cO hv),by
    have h9:=RepL.append (RepL.ev ev _ _ hro) (RepL.ev ev _ _ hrn)
    rw[←flatten_append]at h9
    have h10:=RepL.append h9 (RepL.any _ _ Z)
    rw[show C.toList=olds++news++Z by simp only[C,Z,Array.toList_append]]
    exact h10⟩
  exact⟨_,_,_,_,.inl (hop hr),hk2,s3,ev,by simp only[Rep];rw[hlen]⟩
 rcases hW with⟨rfl,rfl,hW⟩|⟨b,cap,pad,rfl,rfl,hg,hrl,hfl,hle,hcmx⟩
 ·by_cases hm:ys'.length=0
  ·have hy0:ys'=[]:=eq_nil_of_length_eq_zero hm
   subst hy0
   have hr:(Builtin.append_ #[t,tx] o.type #[a.eval x,a.eval y]).run P w= .ok (a.eval x) w:=by
    rcases hW with rfl|⟨v,rfl,rfl|⟨ad,rfl⟩⟩
    ·simp only[Rep]at hx
     rw[hx];exact eC hu hi hsrc
    ·simp only[Rep]at hx
     rw[hx];exact eC hu hi hsrc
    ·simp only[Rep]at hx
     rw[hx]
     have hn0:news=[]:=eq_nil_of_length_eq_zero (by rw[hnl];simp)
     subst hn0
     have hcl:=hsrc.cells
     simp only[length_nil]at hcl
     rcases hsrc.kind with⟨e'',hk'⟩|hk'<;>simp[Builtin.append_,run_underlying hu,run_underlying hk',sizeOf,typeInfo,hi,hsrc.len,hcl,storeCells]
   exact⟨_,_,_,_,.inl (hop hr),hk0 rfl rfl,hS,Ev.refl σ w,hx⟩
  ·have hbase:∃base,a.eval x= .slice base 0 0:=by
    rcases hW with rfl|⟨v,rfl,rfl|⟨ad,rfl⟩⟩<;>simp only[Rep]at hx<;>exact⟨_,hx⟩
   obtain⟨base,hbase⟩:=hbase
   refine grow base 0 [] hbase (by simp) (by simp[RepL]) (by simp) (by simp) ?_ (by simp;omega)
   cases base with
   |none=>simp[Builtin.firstCells]
   |some ad=>exact run_firstCells_some w.drew i.size 0 ad 0 0 [] (by simp) (by simp)
 ·simp only[Rep]at hx
  have hm:=Store.get_mem hg
  have hkey:b∈σ.keys:=mem_map.2 ⟨_,hm,rfl⟩
  have hflat:=ax _ hrl
  by_cases hroom:rows.length+ys'.length<=cap
  ·have hfit:rows.length*i.size+ys'.flatten.length<=(rows.flatten++pad).length:=by
    rw[hfl,ax _ hyl,←Nat.add_mul];exact Nat.mul_le_mul_right _ hroom
   obtain⟨vs,hh,hsz,hev,hS'⟩:=hS.setRow hg hrn hsrc.one (off:=rows.length*i.size) hfit
   have hr:=eD (P:=P) (ty:=o.type) hu hi hh hsrc hroom (by rw[hsz,hfl,hnl,←Nat.add_mul];exact Nat.mul_le_mul_right _ hroom)
   rw[←hx]at hr
   have e1:aH (rows.flatten++pad) (rows.length*i.size) ys'.flatten=(rows++ys').flatten++pad.drop ys'.flatten.length:=by
    rw[aV _ _ _ hfit,←hflat,take_append_of_le_length (Nat.le_refl _),take_length,flatten_append]
    congr 1
    rw[drop_append]
    simp
   rw[e1]at hev hS'
   have hss:=set_subN (x:=AObj.cells e ((rows++ys').flatten++pad.drop ys'.flatten.length)) hkey
   refine⟨_,_,_,_,.inl (hop hr),hk1 b cap (pad.drop ys'.flatten.length) (cP σ b) (by rw[hlen];exact hroom) hcmx (λr hr=>by rcases mem_append.1 hr with hr|hr<;>first|exact hrl r hr|exact hyl r hr) ?_,hS'.subN hss,hev.trans (Ev.of_sub hss.1 _),by simp only[Rep];rw[hlen]⟩
   ·rw[flatten_append,length_append,length_append,length_drop]
    rw[length_append]at hfl hfit
    omega
  ·obtain⟨vs,hh,hone,hrep⟩:=hS.obj b _ (mem_append.2 (.inl hm))
   have hvl:=hrep.length
   have hrt:=RepL.take rows.flatten.length hrep
   rw[take_append_of_le_length (Nat.le_refl _),take_length]at hrt
   have hol:(vs.toList.take rows.flatten.length).length=rows.length*i.size:=by rw[length_take,hvl,←hflat,length_append];omega
   refine grow (some ⟨b,0,none⟩) cap (vs.toList.take rows.flatten.length) hx hol hrt (λv hv=>hone v (mem_of_mem_take hv)) hrl (run_firstCells_some w.drew i.size rows.length _ _ _ _ hol ?_) (by omega)
   intro j v hj
   rw[add_lit,Nat.zero_add]
   have hj2:vs.toList[j]? =some v:=by rw[getElem?_take]at hj;split at hj;exact hj;cases hj
   have:w.drew.cell? ⟨b,j,none⟩=w.cell? ⟨b,j,none⟩:=rfl
   rw[this,cell_of_row w b j vs e (0,0) hh]
   simpa using hj2
theorem pE {op:Op} {t:Tag K} (σf σr:Store) (hs:SubN (σf++σr) σ) (h:RAW G P op env σf (λr σ'=>(σ'++σr:Store).keys.Nodup->K r (σ'++σr)) ⟨⟩):RAW G P op env σ K t:=by
 intro ρ w a o ho hS hE
 have hS2:Sat G (σf++(σr++ρ)) w:=by have:=hS.subN hs;rwa [append_assoc]at this
 obtain⟨v,w',r,σ',h1,h2,h3,h4,h5⟩:=h (σr++ρ) w a o ho hS2 (λj=>by
  have:=Rep.ev (Ev.of_sub hs.1 w) _ _ (hE j)
  rwa [append_assoc]at this)
 have h3':Sat G ((σ'++σr)++ρ) w':=by rwa [append_assoc]
 exact⟨v,w',r,σ'++σr,h1,h2 h3'.nodup_left,h3',h4.frame hs.1,by rwa [append_assoc]⟩
theorem gC {t e:TypeId} {n:Nat} (hu:P.underlying t=some (.slice e)) (hn:(P.info? e).map (·.size)=some n) (hk:∀v,la v->K (.sc v) σ):RAW G P (.buildSlice t 0 #[]) env σ K ⟨⟩:=by
 intro ρ w a o ho hS hE
 obtain⟨i,hi,_⟩:=Option.map_eq_some_iff.1 hn
 have hev:Ev σ w σ (w.alloc (.cells #[] e)):=Ev.alloc0 _
 have hlt:∀b x,(b,x)∈σ++ρ->b<w.heap.size:=λb x hx=>(hS.obj b x hx).lt
 refine⟨.slice (some ⟨w.heap.size,0,none⟩) 0 0,w.alloc (.cells #[] e),.sc (.slice (some ⟨w.heap.size,0,none⟩) 0 0),σ,.inl ?_,hk _ (.inr ⟨_,rfl⟩),?_,hev,by simp only[Rep]⟩
 ·have e0:(Array.range 0).map (λ_=>(default:Value))=#[]:=by apply Array.ext';simp
  simp[execOp,ho,Instr.buildSlice,run_underlying hu,sizeOf,typeInfo,hi,Instr.fill,newRow,e0]
 ·exact hS.step hev hS.nodup_left (λb hb=>.inl hb) (λb x hx=>(hS.obj b x (mem_append.2 (.inl hx))).keep hev (Below.heap_alloc _ _ b (hlt b x (mem_append.2 (.inl hx)))))
/-! ### from now on no one writes -/
def gk (e:TypeId) (sz:Nat) (rows:List (List AV)) (base:Option Addr) (cap:Nat) (σ:Store):Prop:=
 (rows=[]/\cap=0/\σ=[])\/
 ∃b pad,base=some ⟨b,0,none⟩/\σ=[(b,.cells e (rows.flatten++pad))]/\rows.length<=cap/\cap<=maxLen/\(∀r∈rows,r.length=sz)/\(rows.flatten++pad).length=cap*sz
def bR (e:TypeId) (sz:Nat) (rows:List (List AV)) (v:AV) (σ:Store):Prop:=∃base cap,v= .sc (.slice base rows.length cap)/\gk e sz rows base cap σ
theorem gk.freeze {e:TypeId} {sz:Nat} {rows:List (List AV)} {base:Option Addr} {cap:Nat} {σh σ':Store} {u:Value} (h:gk e sz rows base cap σh) (hS:Sat G (σ'++ρ) w) (hsub:Sub σh σ') (hr:u= .slice base rows.length cap):Rep ρ w (.lst sz rows) u:=by
 rcases h with⟨rfl,rfl,rfl⟩|⟨b,pad,rfl,rfl,hle,hcm,hrl,hlen⟩
 ·subst hr
  simp only[Rep]
  cases base with
  |none=>exact .inl ⟨rfl,trivial⟩
  |some ad=>exact .inr ⟨ad,0,rfl,Nat.le_refl _,Nat.zero_le _,by simp only[av]⟩
 ·have hm:(b,AObj.cells e (rows.flatten++pad))∈σ':=hsub _ (by simp)
  obtain⟨vs,hh,hone,hrep⟩:=hS.obj b _ (mem_append.2 (.inl hm))
  simp only[Rep]
  refine .inr ⟨_,cap,hr,hle,hcm,av.of_flat hrl (RepAt.of_get λj hj=>?_)⟩
  rw[Nat.zero_mul,Nat.zero_add,add_lit,Nat.zero_add]
  have hvl:=hrep.length
  have hj2:j<vs.toList.length:=by rw[hvl,length_append];omega
  have hg:=hrep.get j (by rw[length_append];omega) hj2
  rw[getElem_append_left hj]at hg
  refine⟨vs.toList[j],⟨?_,?_⟩,hone _ (getElem_mem hj2),Rep.sub (λq hq=>mem_append.2 (.inr hq)) hg⟩
  ·rw[cell_of_row w b j vs e (0,0) hh]
   simp
  ·intro hmu
   have hk:=hmu.of_key
   have hnd:=hS.nodup
   rw[aA]at hnd
   exact(nodup_append.1 hnd).2.2 b (mem_map.2 ⟨_,hm,rfl⟩) b hk rfl
theorem bR.freeze {e:TypeId} {sz:Nat} {rows:List (List AV)} {v:AV} {σh σ':Store} {u:Value} (h:bR e sz rows v σh) (hS:Sat G (σ'++ρ) w) (hsub:Sub σh σ') (hr:Rep (σ'++ρ) w v u):Rep ρ w (.lst sz rows) u:=by
 obtain⟨base,cap,rfl,h⟩:=h
 simp only[Rep]at hr
 exact h.freeze hS hsub hr
def FrzL (σ:Store):List AV->List AV->Prop
 |[],[]=>True
 |x::xs,y::ys=>(x=y\/∃e sz rows σh,bR e sz rows x σh/\Sub σh σ/\y= .lst sz rows)/\FrzL σ xs ys
 |_,_=>False
theorem FrzL.rep {σ':Store} (hS:Sat G (σ'++ρ) w):∀{xs ys:List AV} {us:List Value},FrzL σ' xs ys->RepL (σ'++ρ) w xs us->RepL ρ w ys us
 |[],[],us,_,h=>by simpa[RepL]using h
 |x::xs,y::ys,us,hf,h=>by
  simp only[RepL]at h ⊢
  obtain⟨u,us',rfl,h2,h3⟩:=h
  refine⟨u,us',rfl,?_,FrzL.rep hS hf.2 h3⟩
  rcases hf.1 with rfl|⟨e,sz,rows,σh,ho,hs,rfl⟩
  ·exact Rep.sub (λq hq=>mem_append.2 (.inr hq)) h2
  ·exact ho.freeze hS hs h2
 |[],_::_,_,h,_=>h.elim
 |_::_,[],_,h,_=>h.elim
theorem aj.freeze {k:FuncId} {args ys:List AV} (h:aj G P k args [] (λr σ=>∃xs,r= .agg xs/\FrzL σ xs ys)):Pure G P k args (.agg ys):=
 ⟨h.1,λρ w vs hS hA=>(h.2 ρ w vs hS hA).mono λe w' ⟨v,r,σ',he,⟨xs,hr,hF⟩,hsat,hev,hrep⟩=>by
  subst hr
  refine⟨v,.agg ys,[],he,⟨rfl,rfl⟩,hsat.subN (SubN.nil _),hev.trans (Ev.of_sub (SubN.nil _).1 _),?_⟩
  simp only[Rep]at hrep ⊢
  obtain⟨vs',h1,h2,h3⟩:=hrep
  exact⟨vs',h1,h2,by simpa using FrzL.rep hsat hF h3⟩⟩
end
/-! ### stores put together -/
theorem ao {σ τ:Store} {b:Nat} (h:b∉σ.keys):Store.get (σ++τ) b=Store.get τ b:=by
 induction σ with
 |nil=>rfl
 |cons p σ ih=>
  obtain⟨k,x⟩:=p
  simp only[Store.keys,map_cons,mem_cons,not_or]at h
  simp only[cons_append,Store.get,if_neg (Ne.symm h.1)]
  exact ih h.2
theorem ap {σ τ:Store} {b:Nat} {y:AObj} (h:b∉σ.keys):Store.set (σ++τ) b y=σ++Store.set τ b y:=by
 induction σ with
 |nil=>rfl
 |cons p σ ih=>
  obtain⟨k,x⟩:=p
  simp only[Store.keys,map_cons,mem_cons,not_or]at h
  simp only[cons_append,Store.set,if_neg (Ne.symm h.1)]
  rw[ih h.2]
theorem SubN.perm {σ' σ:Store} (h:List.Perm σ' σ):SubN σ' σ:=
 ⟨λq hq=>h.mem_iff.1 hq,λhn=>by unfold Store.keys at*;exact(h.map Prod.fst).nodup_iff.2 hn⟩
theorem SubN.trans {a b c:Store} (h:SubN a b) (k:SubN b c):SubN a c:=⟨λq hq=>k.1 q (h.1 q hq),λhn=>h.2 (k.2 hn)⟩
theorem SubN.appL {σ τ:Store}:SubN σ (σ++τ):=by
 refine⟨λq hq=>mem_append.2 (.inl hq),λhn=>?_⟩
 rw[aA]at hn
 exact(nodup_append.1 hn).1
theorem SubN.appR {σ τ:Store}:SubN τ (σ++τ):=by
 refine⟨λq hq=>mem_append.2 (.inr hq),λhn=>?_⟩
 rw[aA]at hn
 exact(nodup_append.1 hn).2.1
theorem SubN.app {a b c:Store} (h:SubN b c):SubN (a++b) (a++c):=by
 refine⟨λq hq=>?_,λhn=>?_⟩
 ·rcases mem_append.1 hq with hq|hq
  ·exact mem_append.2 (.inl hq)
  ·exact mem_append.2 (.inr (h.1 q hq))
 ·rw[aA]at hn ⊢
  obtain⟨n1,n2,n3⟩:=nodup_append.1 hn
  exact nodup_append.2 ⟨n1,h.2 n2,λx hx y hy=>n3 x hx y (cM h.1 hy)⟩
/-! ### rows in a block -/
theorem jB {sz:Nat}:∀{rows:List (List AV)} {pad:List AV} {i:Nat},(∀r∈rows,r.length=sz)->(h:i<rows.length)->((rows.flatten++pad).drop (i*sz)).take sz=rows[i]
 |[],_,_,_,h=>by simp at h
 |r::rows,pad,0,hr,_=>by
  have:=hr r (by simp)
  simp[←this]
 |r::rows,pad,i+1,hr,h=>by
  have h1:=hr r (by simp)
  rw[flatten_cons,append_assoc,drop_append,drop_of_length_le (by rw[h1,Nat.add_mul];omega),nil_append,show(i+1)*sz-r.length=i*sz by rw[h1,Nat.add_mul];omega]
  exact jB (λq hq=>hr q (mem_cons_of_mem _ hq)) (by simpa using h)
theorem oZ {l m:List AV} {o:Nat} {c:List AV} (h:o+c.length<=l.length):aH (l++m) o c=aH l o c++m:=by
 rw[aV _ _ _ h,aV _ _ _ (by simp;omega),take_append_of_le_length (by omega),drop_append_of_le_length h,append_assoc,append_assoc,append_assoc]
theorem lj {l:List AV} {o:Nat} {c:List AV} (h:o+c.length<=l.length):(aH l o c).length=l.length:=by
 rw[aV _ _ _ h];simp;omega
theorem ez {sz:Nat} {c:List AV} {off:Nat} (hc:off+c.length<=sz):∀{rows:List (List AV)} {pad:List AV} {i:Nat},(∀r∈rows,r.length=sz)->(h:i<rows.length)->
  aH (rows.flatten++pad) (i*sz+off) c=(rows.set i (aH rows[i] off c)).flatten++pad
 |[],_,_,_,h=>by simp at h
 |r::rows,pad,0,hr,_=>by
  have h1:=hr r (by simp)
  simp only[Nat.zero_mul,Nat.zero_add,flatten_cons,append_assoc,set_cons_zero,getElem_cons_zero]
  rw[oZ (by omega)]
 |r::rows,pad,i+1,hr,h=>by
  have h1:=hr r (by simp)
  have hl:i<rows.length:=by simpa using h
  have ih:=ez hc (pad:=pad) (λq hq=>hr q (mem_cons_of_mem _ hq)) hl
  have hfl:=ax rows (λq hq=>hr q (mem_cons_of_mem _ hq))
  have hle:i*sz+off+c.length<=(rows.flatten++pad).length:=by
   have:=Nat.mul_le_mul_right sz (show i+1<=rows.length from hl)
   rw[Nat.add_mul]at this
   rw[length_append,hfl];omega
  rw[aV _ _ _ hle]at ih
  have hle2:(i+1)*sz+off+c.length<=(r++(rows.flatten++pad)).length:=by rw[length_append,h1,Nat.add_mul];omega
  rw[flatten_cons,append_assoc,aV _ _ _ hle2]
  simp only[set_cons_succ,getElem_cons_succ,flatten_cons,append_assoc]
  rw[←ih]
  have e:(i+1)*sz+off=r.length+(i*sz+off):=by rw[h1,Nat.add_mul];omega
  rw[e,Nat.add_assoc,take_length_add_append,drop_length_add_append]
  simp[append_assoc]
end Go.Av
