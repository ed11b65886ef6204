/-
  ABSTRACT VALUES, 24: maps: make, look up, put, length.
-/
import Derived.Test.YtepngejmjdgccaaGreatDoorXAv17toXAv23
import Derived.MapKept
import Derived.Carry
import Derived.Deep.Slices
import Derived.Deep.DeepHandedRow
namespace Go.Av
open Go Go.RowKit
set_option linter.unusedSimpArgs false
set_option linter.unusedVariables false
structure MapK (P:Program) (kT:TypeId) {κ:Type} [DecidableEq κ] (val:κ->Value):Prop where
 ck:∀(em:Bool) (k:κ) (w:World),(Instr.checkKey em 10000 kT (val k)).run P w= .ok () w
 find:∀(k:κ) (ks:List κ) (ents:List MapEntry) (w:World),ents.map (·.key)=ks.map val->
  (Instr.findKey kT (val k) ents).run P w= .ok (((ks.zip ents).zipIdx.find? λq=>decide (q.1.1=k)).map λq=>(q.2,q.1.2.val)) w
 stays:∀(k:κ) (w:World),(Instr.keyThatStays (val k) (val k)).run P w= .ok (val k) w
def mgets {κ:Type} [DecidableEq κ] (k:κ):List (κ×AV)->Option AV
 |[]=>none
 |p::l=>if p.1=k then some p.2 else mgets k l
def mputs {κ:Type} [DecidableEq κ] (k:κ) (x:AV):List (κ×AV)->List (κ×AV)
 |[]=>[(k,x)]
 |p::l=>if p.1=k then (p.1,x)::l else p::mputs k x l
def mrows {κ:Type} (val:κ->Value) (l:List (κ×AV)):List (Value×AV):=l.map λp=>(val p.1,p.2)
section
variable {G:Glob} {P:Program} {env:Env} {σ:Store} {K:AV->Store->Prop} {κ:Type} [DecidableEq κ] {kT:TypeId} {val:κ->Value}
theorem find_shift {α:Type} (p:α->Bool):∀(l:List α) (n:Nat),((l.zipIdx (n+1)).find? λq=>p q.1)=((l.zipIdx n).find? λq=>p q.1).map λq=>(q.1,q.2+1)
 |[],n=>rfl
 |a::l,n=>by
  simp only[List.zipIdx_cons,List.find?_cons]
  cases h:p a with
  |true=>simp
  |false=>simp only[];exact find_shift p l (n+1)
theorem find_rep {τ:Store} {w:World} (k:κ):∀(l:List (κ×AV)) (ents:List MapEntry),ents.map (·.key)=(l.map λp=>val p.1)->RepL τ w (l.map (·.2)) (ents.map (·.val))->
  (mgets k l=none/\(((l.map (·.1)).zip ents).zipIdx.find? λq=>decide (q.1.1=k))=none)\/
  ∃x i e,mgets k l=some x/\(((l.map (·.1)).zip ents).zipIdx.find? λq=>decide (q.1.1=k))=some ((k,e),i)/\ents[i]? =some e/\Rep τ w x e.val/\e.key=val k/\
   (∀v y,Rep τ w y v->RepL τ w ((mputs k y l).map (·.2)) ((ents.modify i λe=>{e with key:=val k,val:=v}).map (·.val))/\(ents.modify i λe=>{e with key:=val k,val:=v}).map (·.key)=(mputs k y l).map λp=>val p.1)
 |[],ents,hk,hr=>.inl ⟨rfl,by simp⟩
 |p::l,[],hk,hr=>by simp at hk
 |p::l,e::ents,hk,hr=>by
  simp only[List.map_cons,List.cons.injEq]at hk
  simp only[List.map_cons,RepL]at hr
  obtain⟨u,us,h1,h2,h3⟩:=hr
  injection h1 with h1 h1'
  subst h1 h1'
  by_cases hp:p.1=k
  ·right
   subst hp
   refine⟨p.2,0,e,by simp[mgets],by simp[List.zipIdx_cons],rfl,h2,hk.1,λv y hy=>?_⟩
   simp only[mputs,if_true,List.modify_zero_cons,List.map_cons,RepL]
   exact⟨⟨v,_,rfl,hy,h3⟩,by rw[hk.2]⟩
  ·rcases find_rep k l ents hk.2 h3 with⟨a1,a2⟩|⟨x,i,e',a1,a2,a3,a4,a5,a6⟩
   ·left
    refine⟨by simp[mgets,hp,a1],?_⟩
    simp only[List.map_cons,List.zip_cons_cons,List.zipIdx_cons,List.find?_cons,hp,decide_false]
    have:=find_shift (λq:κ×MapEntry=>decide (q.1=k)) ((l.map (·.1)).zip ents) 0
    rw[Nat.zero_add]at*
    rw[this,a2];rfl
   ·right
    refine⟨x,i+1,e',by simp[mgets,hp,a1],?_,by simpa using a3,a4,a5,λv y hy=>?_⟩
    ·simp only[List.map_cons,List.zip_cons_cons,List.zipIdx_cons,List.find?_cons,hp,decide_false]
     have:=find_shift (λq:κ×MapEntry=>decide (q.1=k)) ((l.map (·.1)).zip ents) 0
     rw[Nat.zero_add]at*
     rw[this,a2];rfl
    ·obtain⟨b1,b2⟩:=a6 v y hy
     simp only[mputs,if_neg hp,List.modify_succ_cons,List.map_cons,RepL]
     exact⟨⟨_,_,rfl,h2,b1⟩,by rw[hk.1,b2]⟩
theorem mputs_none {k:κ} {x:AV}:∀{l:List (κ×AV)},mgets k l=none->mputs k x l=l++[(k,x)]
 |[],_=>rfl
 |p::l,h=>by
  simp only[mgets]at h
  split at h
  ·cases h
  ·rename_i hp
   simp only[mputs,if_neg hp,List.cons_append,mputs_none h]
theorem set_sub {b k:Nat} {y z:AObj}:∀{σ:Store},(k,z)∈σ.set b y->(k,z)∈σ\/(k=b/\z=y)
 |[],h=>by simp[Store.set]at h
 |(k0,x0)::s,h=>by
  simp only[Store.set]at h
  split at h
  ·rename_i hk
   rcases List.mem_cons.1 h with h|h
   ·cases h;exact .inr ⟨hk,rfl⟩
   ·exact .inl (List.mem_cons_of_mem _ h)
  ·rcases List.mem_cons.1 h with h|h
   ·cases h;exact .inl (by simp)
   ·rcases set_sub h with h|h
    ·exact .inl (List.mem_cons_of_mem _ h)
    ·exact .inr h
theorem Ev.setMap {w:World} {b:Nat} {es es':List (Value×AV)} {ents ents':Array MapEntry} {c c':Nat} (hm:(b,AObj.map es)∈σ) (hh:w.heap[b]? =some (.map ents c)):
  Ev σ w (σ.set b (.map es')) {w with heap:=w.heap.setIfInBounds b (.map ents' c')}:=by
 have hlt:b<w.heap.size:=(Array.getElem?_eq_some_iff.1 hh).1
 have hot:∀k,k≠b->(w.heap.setIfInBounds b (.map ents' c'))[k]? =w.heap[k]? :=λk hk=>by simp[Ne.symm hk]
 have hmut:∀o,Mut σ b o:=λo=>⟨_,hm,trivial⟩
 refine⟨rfl,rfl,rfl,by simp,λk hk hn=>⟨hot k (λe=>hn (by rw[e];exact List.mem_map.2 ⟨_,hm,rfl⟩)),λh=>hn (by rwa [set_keys]at h)⟩,?_,?_⟩
 ·intro k s hs
  by_cases hk:k=b
  ·subst hk
   simp[World.shape?,hh]at hs
  ·unfold World.shape? at*
   rw[hot k hk]
   exact hs
 ·intro a v hv hn
  by_cases hk:a.block=b
  ·exact absurd (hk ▸ hmut a.off) hn
  ·refine⟨?_,?_⟩
   ·unfold World.cell? at*
    rw[hot _ hk]
    exact hv
   ·rintro⟨x,hx,hxm⟩
    rcases set_sub hx with hx|⟨e,_⟩
    ·exact hn ⟨x,hx,hxm⟩
    ·exact hk e
theorem RAW_makeMap {t:TypeId} (hk:∀b,b∉σ.keys->K (.sc (.map (some b))) ((b,.map [])::σ)):RAW G P (.makeMap t none) env σ K ⟨⟩:=by
 intro ρ w a op ho hS hE
 have hnew:(w.alloc (.map #[] 0)).heap[w.heap.size]? =some (.map #[] 0):=heap_alloc_new w _
 refine⟨.map (some w.heap.size),w.alloc (.map #[] 0),.sc (.map (some w.heap.size)),_,.inl ?_,hk _ (fresh_key hS),hS.alloc _ _ ⟨#[],0,hnew,rfl,by simp[RepL]⟩,Ev.alloc _ _,by simp only[Rep]⟩
 simp[execOp,ho,run_makeMap]
theorem RAW_lookup (M:MapK P kT val) {xT eT:TypeId} {x ix:Operand} {cm:Bool} {b:Nat} {l:List (κ×AV)} {k:κ} {z:Value} {zv:AV} (hx:(SOpd.of x).eval G env= .sc (.map (some b)))
  (hix:∀τ w v,Rep τ w ((SOpd.of ix).eval G env) v->v=val k) (hu:P.underlying xT=some (.map kT eT)) (hg:σ.get b=some (.map (mrows val l))) (hz:(P.info? eT).bind (·.zero)=some z) (hzv:∀τ w,Rep τ w zv z)
  (hk:K (if cm then .tup [(mgets k l).getD zv,.bool (mgets k l).isSome]else (mgets k l).getD zv) σ):RAW G P (.lookup xT x ix cm) env σ K ⟨⟩:=by
 refine RAW_quiet _ (λρ w a op ho hS hE=>?_) hk
 have h1:=eval_rep hS hE x
 have h2:=hix _ _ _ (eval_rep hS hE ix)
 rw[hx]at h1
 simp only[Rep]at h1
 obtain⟨ents,c,hh,hke,hve⟩:=hS.obj b _ (List.mem_append.2 (.inl (Store.get_mem hg)))
 have e1:ents.toList.map (·.key)=l.map λp=>val p.1:=by rw[hke];simp[mrows]
 have e2:(mrows val l).map (·.2)=l.map (·.2):=by simp[mrows]
 rw[e2]at hve
 have e3:=M.find k (l.map (·.1)) ents.toList w (by rw[e1];simp)
 have hz':(zeroValue eT).run P w= .ok z w:=by
  obtain⟨i,hi,hiz⟩:=Option.bind_eq_some_iff.1 hz
  have hti:(typeInfo eT).run P w= .ok i w:=run_typeInfo w hi
  simp[zeroValue,hti,hiz]
 have hck:∀em,(Instr.checkKey em 10000 kT (val k)).run P w= .ok () w:=λem=>M.ck em k w
 have hgo:(getObj b).run P w= .ok (.map ents c) w:=by simp[getObj,Sem.run,hh]
 have hso:∀o,(setObj b o).run P w= .ok () {w with heap:=w.heap.setIfInBounds b o}:=λo=>by simp[setObj,Sem.run,hh]
 rcases find_rep k l ents.toList e1 hve with⟨a1,a2⟩|⟨y,i,e,a1,a2,a3,a4,_,_⟩
 ·refine⟨if cm then .tuple #[z,.bool false]else z,?_,?_⟩
  ·simp[execOp,ho,h1,h2,Instr.lookup,run_underlying hu,hgo,hck,e3,a2,hz']
  ·rw[a1]
   cases cm with
   |false=>simpa using hzv _ _
   |true=>simp only[if_true,Option.getD_none,Option.isSome_none,Rep];exact⟨_,rfl,by simp only[RepL];exact⟨_,_,rfl,hzv _ _,_,_,rfl,by simp only[Rep],rfl⟩⟩
 ·refine⟨if cm then .tuple #[e.val,.bool true]else e.val,?_,?_⟩
  ·simp[execOp,ho,h1,h2,Instr.lookup,run_underlying hu,hgo,hck,e3,a2]
  ·rw[a1]
   cases cm with
   |false=>simpa using a4
   |true=>simp only[if_true,Option.getD_some,Option.isSome_some,Rep];exact⟨_,rfl,by simp only[RepL];exact⟨_,_,rfl,a4,_,_,rfl,by simp only[Rep],rfl⟩⟩
theorem RAW_mapUpdate (M:MapK P kT val) {xT eT:TypeId} {x ix y:Operand} {b:Nat} {l:List (κ×AV)} {k:κ} {yv:AV} (hx:(SOpd.of x).eval G env= .sc (.map (some b)))
  (hix:∀τ w v,Rep τ w ((SOpd.of ix).eval G env) v->v=val k) (hy:(SOpd.of y).eval G env=yv) (hu:P.underlying xT=some (.map kT eT)) (hg:σ.get b=some (.map (mrows val l)))
  (hk:K undefAV (σ.set b (.map (mrows val (mputs k yv l))))):RAW G P (.mapUpdate xT x ix y) env σ K ⟨⟩:=by
 intro ρ w a op ho hS hE
 have h1:=eval_rep hS hE x
 have h2:=hix _ _ _ (eval_rep hS hE ix)
 have h3:=eval_rep hS hE y
 rw[hx]at h1
 rw[hy]at h3
 simp only[Rep]at h1
 have hm:=Store.get_mem hg
 obtain⟨ents,c,hh,hke,hve⟩:=hS.obj b _ (List.mem_append.2 (.inl hm))
 have e1:ents.toList.map (·.key)=l.map λp=>val p.1:=by rw[hke];simp[mrows]
 have e2:(mrows val l).map (·.2)=l.map (·.2):=by simp[mrows]
 rw[e2]at hve
 have e3:=M.find k (l.map (·.1)) ents.toList w (by rw[e1];simp)
 have hlt:b<w.heap.size:=(Array.getElem?_eq_some_iff.1 hh).1
 have fin:∀(ents':Array MapEntry) (c':Nat),ents'.toList.map (·.key)=((mputs k yv l).map λp=>val p.1)->RepL (σ++ρ) w ((mputs k yv l).map (·.2)) (ents'.toList.map (·.val))->
   Sat G (σ.set b (.map (mrows val (mputs k yv l)))++ρ) {w with heap:=w.heap.setIfInBounds b (.map ents' c')}/\Ev σ w (σ.set b (.map (mrows val (mputs k yv l)))) {w with heap:=w.heap.setIfInBounds b (.map ents' c')}:=by
  intro ents' c' g1 g2
  have hev:Ev σ w (σ.set b (.map (mrows val (mputs k yv l)))) {w with heap:=w.heap.setIfInBounds b (.map ents' c')}:=Ev.setMap hm hh
  refine⟨?_,hev⟩
  have hnd:=hS.nodup_left
  refine hS.step hev (by rw[set_keys];exact hnd) (λk hk=>.inl (by rwa [set_keys]at hk)) ?_
  intro k' q hq
  rcases set_mem hq hnd with⟨rfl,rfl⟩|⟨hne,hq⟩
  ·refine⟨ents',c',by simp[hlt],by rw[g1];simp[mrows],?_⟩
   have:=RepL.ev hev _ _ g2
   have e4:(mrows val (mputs k yv l)).map (·.2)=(mputs k yv l).map (·.2):=by simp[mrows]
   rw[e4];exact this
  ·exact(hS.obj k' q (List.mem_append.2 (.inl hq))).keep hev (by simp[Ne.symm hne])
 have hck:∀em,(Instr.checkKey em 10000 kT (val k)).run P w= .ok () w:=λem=>M.ck em k w
 have hgo:(getObj b).run P w= .ok (.map ents c) w:=by simp[getObj,Sem.run,hh]
 have hso:∀o,(setObj b o).run P w= .ok () {w with heap:=w.heap.setIfInBounds b o}:=λo=>by simp[setObj,Sem.run,hh]
 rcases find_rep k l ents.toList e1 hve with⟨a1,a2⟩|⟨u,i,e,a1,a2,a3,a4,a5,a6⟩
 ·obtain⟨s1,s2⟩:=fin (ents.push {key:=val k,val:=a.eval y,born:=c}) (c+1) (by rw[mputs_none a1];simp[e1]) (by
   rw[mputs_none a1]
   simp only[List.map_append,List.map_cons,List.map_nil,Array.toList_push]
   exact RepL.append hve (by simp only[RepL];exact⟨_,_,rfl,h3,rfl⟩))
  refine⟨undef,_,undefAV,_,.inr ⟨?_,rfl⟩,hk,s1,s2,?_⟩
  ·simp[execOp,ho,h1,h2,Instr.mapUpdate,run_underlying hu,hgo,hck,e3,a2,hso]
  ·exact rep_undef _ _
 ·obtain⟨b1,b2⟩:=a6 (a.eval y) yv h3
  have hst:=M.stays k w
  have a3':ents[i]? =some e:=by simpa using a3
  obtain⟨s1,s2⟩:=fin (ents.modify i λe=>{e with key:=val k,val:=a.eval y}) c (by simpa[Array.toList_modify]using b2) (by simpa[Array.toList_modify]using b1)
  refine⟨undef,_,undefAV,_,.inr ⟨?_,rfl⟩,hk,s1,s2,?_⟩
  ·simp[execOp,ho,h1,h2,Instr.mapUpdate,run_underlying hu,hgo,hck,e3,a2,a3',a5,hst,hso]
  ·exact rep_undef _ _
end
section
variable {P:Program}
end
section
variable {G:Glob} {P:Program} {σ ρ:Store} {w:World} {env:Env} {K:AV->Store->Prop}
/-! ### from now on no one writes -/
end
/-! ### stores put together -/
/-! ### rows in a block -/
def ShpF (p:TypeId->List AV->Prop):List Field->List AV->Prop
 |[],avs=>avs=[]
 |f::fs,avs=>∃a b,avs=a++b/\p f.type a/\ShpF p fs b
def Shp (P:Program) (B:Nat):Nat->TypeId->List AV->Prop
 |0,_,_=>False
 |n+1,t,avs=>
  match P.underlying t with
  |some .bool=>∃b,avs=[.bool b]
  |some (.int k)=>∃i,avs=[.int k i]
  |some .string=>∃s:List UInt8,s.length<=B/\avs=[.str s]
  |some (.slice e)=>∃rows,avs=[.lst (P.cellsOf e) rows]/\rows.length<=B/\rows.length*P.bytesOf e<=B/\∀r∈rows,Shp P B n e r
  |some (.struct fs)=>ShpF (Shp P B n) fs.toList avs
  |_=>False
def tiles (P:Program):List Field->Nat->Option Nat
 |[],o=>some o
 |f::fs,o=>if f.offset=o then tiles P fs (o+P.cellsOf f.type)else none
def closedT (P:Program) (S:List TypeId):Bool:=S.all λt=>
 match P.underlying t with
 |some .bool|some (.int _)|some .string=>P.cellsOf t==1
 |some (.slice e)=>S.contains e&&P.bytesOf e != 0&&P.cellsOf t==1
 |some (.struct fs)=>(fs.toList.all λf=>S.contains f.type)&&tiles P fs.toList 0==some (P.cellsOf t)
 |_=>false
theorem weightsAll_in {H:Type} {P:Program} {e:TypeId}:∀{l:List (DataW H)} {d:DataW H},d∈l->∀n∈d.weights P e,n∈DataW.weightsAll P e l
 |x::l,d,hd,n,hn=>by
  simp only[DataW.weightsAll,List.mem_append]
  rcases List.mem_cons.1 hd with rfl|hd
  ·exact Or.inl hn
  ·exact Or.inr (weightsAll_in hd n hn)
theorem weightsEach_in {H:Type} {P:Program}:∀{ts:List TypeId} {l:List (DataW H)} {i:Nat} {t:TypeId} {d:DataW H},ts[i]? =some t->l[i]? =some d->∀n∈d.weights P t,n∈DataW.weightsEach P ts l
 |t'::ts,x::l,0,t,d,h1,h2,n,hn=>by
  simp only[List.getElem?_cons_zero,Option.some.injEq]at h1 h2
  subst h1 h2
  simp only[DataW.weightsEach,List.mem_append]
  exact .inl hn
 |t'::ts,x::l,i+1,t,d,h1,h2,n,hn=>by
  simp only[DataW.weightsEach,List.mem_append]
  exact .inr (weightsEach_in (i:=i) (by simpa using h1) (by simpa using h2) n hn)
 |[],_,_,_,_,h1,_,_,_=>by simp at h1
 |_::_,[],_,_,_,_,h2,_,_=>by simp at h2
theorem fixed_none {w:World} {a:Addr} {u:Value} (h:w.cell? a=some u):Fixed [] w a u:=⟨h,by rintro⟨x,hx,_⟩;cases hx⟩
theorem open_fields {P:Program} {w:World} {p:TypeId->List AV->Prop} {cs:List Value}:∀(fl:List Field) (o tot:Nat),tiles P fl o=some tot->tot<=cs.length->
  (∀f∈fl,∃avs,p f.type avs/\RepL [] w avs ((cs.drop f.offset).take (P.cellsOf f.type))/\∀v∈(cs.drop f.offset).take (P.cellsOf f.type),v.oneCell'=true)->
  o<=tot/\∃avs,ShpF p fl avs/\RepL [] w avs ((cs.drop o).take (tot-o))/\∀v∈(cs.drop o).take (tot-o),v.oneCell'=true
 |[],o,tot,ht,_,_=>by
  simp only[tiles,Option.some.injEq]at ht
  subst ht
  exact⟨Nat.le_refl _,[],rfl,by simp[RepL],by simp⟩
 |f::fl,o,tot,ht,hl,h=>by
  simp only[tiles]at ht
  split at ht
  ·rename_i ho
   obtain⟨h1,avs2,s2,r2,o2⟩:=open_fields fl _ _ ht hl λg hg=>h g (List.mem_cons_of_mem _ hg)
   obtain⟨avs1,s1,r1,o1⟩:=h f (List.mem_cons_self ..)
   rw[ho]at r1 o1
   have e:(cs.drop o).take (tot-o)=(cs.drop o).take (P.cellsOf f.type)++(cs.drop (o+P.cellsOf f.type)).take (tot-(o+P.cellsOf f.type)):=by
    rw[←List.drop_drop,show tot-o=P.cellsOf f.type+(tot-(o+P.cellsOf f.type))by omega,List.take_add]
   refine⟨by omega,avs1++avs2,⟨avs1,avs2,rfl,s1,s2⟩,by rw[e];exact RepL.append r1 r2,?_⟩
   intro v hv
   rw[e]at hv
   rcases List.mem_append.1 hv with hv|hv
   ·exact o1 v hv
   ·exact o2 v hv
  ·cases ht
theorem cells_get {w:World} {base:Nat} {a:Addr} {n:Nat} {cs:List Value} (h:w.cells? base a n=some cs):cs.length=n/\∀j,(hj:j<cs.length)->w.cell? (a.add j)=some cs[j]:=by
 obtain⟨h1,h2,h3⟩:=World.cells?_some h
 refine⟨h2,λj hj=>?_⟩
 have:=h3 j (by omega)
 rw[this,List.getElem?_eq_getElem hj]
theorem open_any {H:Type} {enc:TypeId×Value->H} {P:Program} {w:World} {S:List TypeId} (hS:closedT P S=true):∀(fuel:Nat) (t:TypeId) (cs:List Value) (x:DataW H×List MemPlace),t∈S->
  DataW.trod enc P w 0 (λ_=>true) true fuel t cs=some x->(∀n∈x.1.weights P t,n<=reachBytes)->cs.length=P.cellsOf t/\∃avs,Shp P reachBytes fuel t avs/\RepL [] w avs cs/\∀v∈cs,v.oneCell'=true
 |0,t,cs,x,_,h,_=>by simp[DataW.trod]at h
 |fuel+1,t,cs,x,ht,h,hw=>by
  have hc:=List.all_eq_true.1 hS t ht
  simp only[Shp]
  split at hc
  ·rename_i hu
   have hu:P.underlying t=some .bool:=hu
   have:∃b,cs=[.bool b]:=by
    unfold DataW.trod at h
    rw[hu]at h
    split at h<;>simp_all
   obtain⟨b,rfl⟩:=this
   exact⟨by simpa using(beq_iff_eq.1 hc).symm,[.bool b],⟨b,rfl⟩,by simp only[RepL,Rep];exact⟨_,_,rfl,rfl,rfl⟩,by simp[Value.oneCell']⟩
  ·rename_i k hu
   obtain⟨n,rfl,_,_⟩:=DataW.trod_int hu h
   exact⟨by simpa using(beq_iff_eq.1 hc).symm,[.int k n],⟨n,rfl⟩,by simp only[RepL,Rep];exact⟨_,_,rfl,rfl,rfl⟩,by simp[Value.oneCell']⟩
  ·rename_i hu
   obtain⟨s,rfl,rfl,_⟩:=DataW.trod_string hu h
   refine⟨by simpa using(beq_iff_eq.1 hc).symm,[.str s.data.toList],⟨s.data.toList,hw _ (by simp[DataW.weights]),rfl⟩,by simp only[RepL,Rep];exact⟨_,_,rfl,by simp,rfl⟩,by simp[Value.oneCell']⟩
  ·rename_i e hu
   simp only[Bool.and_eq_true,bne_iff_ne,ne_eq,beq_iff_eq]at hc
   obtain⟨⟨he,hb0⟩,h1c⟩:=hc
   have he:e∈S:=by simpa using he
   rcases DataW.trod_slice hu h with⟨rfl,_⟩|⟨a,len,cap,elems,rest,n,hn,rfl,rfl,hb,hl,hm,hel,hx,_,_⟩
   ·exact⟨by simpa using h1c.symm,[.lst (P.cellsOf e) []],⟨[],rfl,Nat.zero_le _,by simp,λr hr=>by cases hr⟩,by simp only[RepL,Rep];exact⟨_,_,rfl,.inl ⟨rfl,trivial⟩,rfl⟩,by simp[Value.oneCell']⟩
   ·obtain rfl:n=fuel:=by omega
    simp only[DataW.weights,hu,List.length_map]at hw
    have hw0:=hw _ (List.mem_cons_self ..)
    have hbig:len<=reachBytes:=by
     have h2:elems.length+rest.length<=(elems.length+rest.length)*P.bytesOf e:=Nat.le_mul_of_pos_right _ (Nat.pos_of_ne_zero hb0)
     omega
    have key:∀i,i<len->∃r:List AV,Shp P reachBytes n e r/\r.length=P.cellsOf e/\RepAt [] w a (i*P.cellsOf e) r:=by
     intro i hi
     have hxi:=hx i hi
     have hie:i<elems.length:=by omega
     rw[List.getElem?_eq_getElem hie]at hxi
     obtain⟨cs',k1,k2⟩:=Option.bind_eq_some_iff.1 hxi
     obtain⟨q1,avs,q2,q3,q4⟩:=open_any hS n e cs' _ he k2 λq hq=>hw q (List.mem_cons_of_mem _ (List.mem_append_left _ (weightsAll_in (d:=(elems[i]).1) (List.mem_map.2 ⟨_,List.getElem_mem hie,rfl⟩) _ hq)))
     obtain⟨g1,g2⟩:=cells_get k1
     have hal:=q3.length
     refine⟨avs,q2,by omega,RepAt.of_get λj hj=>?_⟩
     have hj2:j<cs'.length:=by omega
     refine⟨cs'[j],fixed_none ?_,q4 _ (List.getElem_mem hj2),q3.get j hj hj2⟩
     rw[←add_add]
     exact g2 j hj2
    obtain⟨F,hF⟩:=Go.Deep.choose_lt key
    have hlen:((List.range len).map F).length=len:=by simp
    refine⟨by simpa using h1c.symm,[.lst (P.cellsOf e) ((List.range len).map F)],⟨_,rfl,by rw[hlen];exact hbig,by rw[hlen];exact Nat.le_trans (Nat.mul_le_mul_right _ (by omega)) hw0,?_⟩,?_,by simp[Value.oneCell']⟩
    ·intro r hr
     obtain⟨i,hi,rfl⟩:=List.mem_map.1 hr
     exact(hF i (List.mem_range.1 hi)).1
    ·simp only[RepL]
     refine⟨_,_,rfl,?_,rfl⟩
     simp only[Rep]
     right
     refine⟨a,cap,by rw[hlen],by rw[hlen];exact hl,hm,RepRows.of_get λj hj=>?_⟩
     rw[hlen]at hj
     simp only[List.getElem_map,List.getElem_range,Nat.zero_add]
     exact⟨(hF j hj).2.1,(hF j hj).2.2⟩
  ·rename_i fs hu
   simp only[Bool.and_eq_true,beq_iff_eq,List.all_eq_true]at hc
   obtain⟨hc1,hc2⟩:=hc
   obtain⟨xs,n,hn,rfl,hl,hxl,hxs⟩:=DataW.trod_struct hu h
   obtain rfl:n=fuel:=by omega
   simp only[DataW.weights,hu]at hw
   obtain⟨_,avs,s1,r1,o1⟩:=open_fields (w:=w) (p:=Shp P reachBytes n) (cs:=cs) fs.toList 0 _ hc2 (by omega) λf hf=>by
    obtain⟨i,hi,rfl⟩:=List.getElem_of_mem hf
    have hi':i<fs.size:=by simpa using hi
    have hfi:fs[i]? =some fs[i]:=Array.getElem?_eq_getElem hi'
    have hx:=hxs i fs[i] hfi
    have hix:i<xs.length:=by omega
    rw[List.getElem?_eq_getElem hix]at hx
    have hT:fs[i].type∈S:=by simpa using hc1 fs[i] (by simp)
    obtain⟨g1,avs,g2,g3,g4⟩:=open_any hS n fs[i].type _ _ hT hx (λq hq=>hw q (weightsEach_in (i:=i) (t:=fs[i].type) (d:=(xs[i]).1) (by simp[hi']) (by simp[hix]) q hq))
    exact⟨avs,by simpa using g2,by simpa using g3,by simpa using g4⟩
   rw[Nat.sub_zero,List.drop_zero,←hl,List.take_length]at r1 o1
   exact⟨hl,avs,s1,r1,o1⟩
  ·cases hc
theorem open_struct {H:Type} {enc:TypeId×Value->H} {P:Program} {w:World} {S:List TypeId} (hS:closedT P S=true) {t:TypeId} (ht:t∈S) (h1:P.cellsOf t≠1) {v:Value} {d:DataW H} {ps:List MemPlace}
  (hd:DataW.Trod enc P w 0 (λ_=>true) true t v d ps) (hw:∀n∈d.weights P t,n<=reachBytes):∃fuel avs,Shp P reachBytes fuel t avs/\Rep [] w (.agg avs) v:=by
 obtain⟨fuel,hf⟩:=hd
 obtain⟨hl,avs,s,r,o⟩:=open_any hS fuel t _ _ ht hf hw
 refine⟨fuel,avs,s,?_⟩
 cases v with
 |agg vs=>simp only[Rep];exact⟨vs,rfl,o,r⟩
 |_=>simp[Value.cells]at hl;omega
end Go.Av
