/-
  ABSTRACT VALUES, 23: the rest of the rules, in bundles.
-/
import Derived.Test.YtppjieiiibgagaaGreatDoorQXAv16toXAv22
import Derived.MapKept
import Derived.Carry
set_option linter.all false
namespace Go.Av
open Go Go.RowKit List
section
def av {x:Int} (D: -9223372036854775808<=x) (E:x<9223372036854775808):IntKind.i64.wrap x=x:=by
 have:=IntWalk.i64_in x ⟨D,by omega⟩;exact this
def natBeq (n:Nat):(n==n)=true:=by simp
def EV5:=(AI (AI (AI (AI (AI @List.contains_cons.{0} @List.contains_nil.{0}) (AI @Bool.or_false @Bool.false_or)) (AI (AI @Bool.or_true @Bool.true_or) (AI @Bool.not_true (AI @Bool.not_false @List.map_cons.{0,0})))) (AI (AI (AI @List.map_nil.{0,0} @retQ_ret) (AI @qe @RX_nil)) (AI (AI @RX_tmp @RX_cell) (AI @one_nil (AI @one_one @one_two))))) (AI (AI (AI (AI @rC @pF) (AI @List.length_cons.{0} @List.length_nil.{0})) (AI (AI @List.cons_append.{0} @List.nil_append.{0}) (AI @List.drop_succ_cons.{0} (AI @List.drop_zero.{0} @List.drop_nil.{0})))) (AI (AI (AI @List.take_succ_cons.{0} @List.take_zero.{0}) (AI @List.headD_cons.{0} @true_and)) (AI (AI @and_true @Nat.le_refl) (AI @List.getD_cons_zero.{0} (AI @List.getD_cons_succ.{0} @natBeq))))))
end
structure MapK (P:Program) (kT:TypeId) {κ:Type} [DecidableEq κ] (val:κ->Value):Prop where
 ck:∀(em:Bool) (k:κ) (w:World),(Instr.checkKey em 10000 kT (val k)).run P w= .ok () w
 find:∀(k:κ) (ks:List κ) (ents:List MapEntry) (w:World),ents.map (·.key)=ks.map val->
  (Instr.findKey kT (val k) ents).run P w= .ok (((ks.zip ents).zipIdx.find? λq=>decide (q.1.1=k)).map λq=>(q.2,q.1.2.val)) w
 stays:∀(k:κ) (w:World),(Instr.keyThatStays (val k) (val k)).run P w= .ok (val k) w
def bt {κ:Type} [DecidableEq κ] (k:κ):List (κ×AV)->Option AV
 |[]=>none
 |p::l=>if p.1=k then some p.2 else bt k l
def d9 {κ:Type} [DecidableEq κ] (k:κ) (x:AV):List (κ×AV)->List (κ×AV)
 |[]=>[(k,x)]
 |p::l=>if p.1=k then (p.1,x)::l else p::d9 k x l
def df {κ:Type} (val:κ->Value) (l:List (κ×AV)):List (Value×AV):=l.map λp=>(val p.1,p.2)
section
variable {G:Glob} {P:Program} {env:Env} {σ:Store} {K:AV->Store->Prop} {κ:Type} [DecidableEq κ] {kT:TypeId} {val:κ->Value}
def ji {α:Type} (p:α->Bool):∀(l:List α) (n:Nat),((l.zipIdx (n+1)).find? λq=>p q.1)=((l.zipIdx n).find? λq=>p q.1).map λq=>(q.1,q.2+1)
 |[],n=>rfl
 |a::l,n=>by
  simp only[zipIdx_cons,find?_cons]
  cases h:p a with
  |true=>simp
  |false=>simp only[];exact ji p l (n+1)
def mT {τ:Store} {w:World} (k:κ):∀(l:List (κ×AV)) (ents:List MapEntry),ents.map (·.key)=(l.map λp=>val p.1)->RepL τ w (l.map (·.2)) (ents.map (·.val))->
  (bt k l=none/\(((l.map (·.1)).zip ents).zipIdx.find? λq=>decide (q.1.1=k))=none)\/
  ∃x i e,bt k l=some x/\(((l.map (·.1)).zip ents).zipIdx.find? λq=>decide (q.1.1=k))=some ((k,e),i)/\ents[i]? =some e/\Rep τ w x e.val/\e.key=val k/\
   (∀v y,Rep τ w y v->RepL τ w ((d9 k y l).map (·.2)) ((ents.modify i λe=>{e with key:=val k,val:=v}).map (·.val))/\(ents.modify i λe=>{e with key:=val k,val:=v}).map (·.key)=(d9 k y l).map λp=>val p.1)
 |[],ents,hk,hr=>.inl ⟨rfl,by simp⟩
 |p::l,[],hk,hr=>by simp at hk
 |p::l,e::ents,hk,hr=>by
  simp only[map_cons,List.cons.injEq]at hk;simp only[map_cons,RepL]at hr;obtain⟨u,us,I,M,N⟩:=hr
  injection I with I h1'
  subst I h1';by_cases D:p.1=k
  ·right;subst D;refine⟨p.2,0,e,by simp[bt],by simp[zipIdx_cons],rfl,M,hk.1,λv y J=>?_⟩;simp only[d9,if_true,modify_zero_cons,map_cons,RepL];exact⟨⟨v,_,rfl,J,N⟩,by rw[hk.2]⟩
  ·rcases mT k l ents hk.2 N with⟨E,F⟩|⟨x,i,e',E,F,O,T,V,X⟩
   ·left;refine⟨by simp[bt,D,E],?_⟩;simp only[map_cons,zip_cons_cons,zipIdx_cons,find?_cons,D,decide_false];have:=ji (λq:κ×MapEntry=>decide (q.1=k)) ((l.map (·.1)).zip ents) 0;rw[Nat.zero_add]at*;rw[this,F];rfl
   ·right;refine⟨x,i+1,e',by simp[bt,D,E],?_,by simpa using O,T,V,λv y J=>?_⟩
    ·simp only[map_cons,zip_cons_cons,zipIdx_cons,find?_cons,D,decide_false];have:=ji (λq:κ×MapEntry=>decide (q.1=k)) ((l.map (·.1)).zip ents) 0;rw[Nat.zero_add]at*;rw[this,F];rfl
    ·obtain⟨Y,Z⟩:=X v y J;simp only[d9,if_neg D,modify_succ_cons,map_cons,RepL];exact⟨⟨_,_,rfl,M,Y⟩,by rw[hk.1,Z]⟩
def js {k:κ} {x:AV}:∀{l:List (κ×AV)},bt k l=none->d9 k x l=l++[(k,x)]
 |[],_=>rfl
 |p::l,h=>by
  simp only[bt]at h;split at h
  ·cases h
  ·rename_i D;simp only[d9,if_neg D,cons_append,js h]
def set_sub {b k:Nat} {y z:AObj}:∀{σ:Store},(k,z)∈σ.set b y->(k,z)∈σ\/(k=b/\z=y)
 |[],h=>by simp[Store.set]at h
 |(k0,x0)::s,h=>by
  simp only[Store.set]at h;split at h
  ·rename_i D
   rcases mem_cons.1 h with h|h
   ·cases h;exact .inr ⟨D,rfl⟩
   ·exact .inl (mem_cons_of_mem _ h)
  ·rcases mem_cons.1 h with h|h
   ·cases h;exact .inl (by simp)
   ·rcases set_sub h with h|h
    ·exact .inl (mem_cons_of_mem _ h)
    ·exact .inr h
def uM {w:World} {b:Nat} {es M:List (Value×AV)} {ents D:Array MapEntry} {c T:Nat} (X:(b,AObj.map es)∈σ) (V:w.heap[b]? =some (.map ents c)):
  Ev σ w (σ.set b (.map M)) {w with heap:=w.heap.setIfInBounds b (.map D T)}:=by
 have Z:b<w.heap.size:=(Array.getElem?_eq_some_iff.1 V).1
 have F:∀k,k≠b->(w.heap.setIfInBounds b (.map D T))[k]? =w.heap[k]? :=λk E=>by simp[Ne.symm E]
 have I:∀o,Mut σ b o:=λo=>⟨_,X,trivial⟩
 refine⟨rfl,rfl,rfl,by simp,λk E J=>⟨F k (λe=>J (by rw[e];exact mem_map.2 ⟨_,X,rfl⟩)),λh=>J (by rwa [dV]at h)⟩,?_,?_⟩
 ·intro k s Y
  by_cases E:k=b
  ·subst E;simp[World.shape?,V]at Y
  ·unfold World.shape? at*;rw[F k E];exact Y
 ·intro a v hv J
  by_cases E:a.block=b
  ·exact absurd (E ▸ I a.off) J
  ·refine⟨?_,?_⟩
   ·unfold World.cell? at*;rw[F _ E];exact hv
   ·rintro⟨x,N,O⟩
    rcases set_sub N with N|⟨e,_⟩
    ·exact J ⟨x,N,O⟩
    ·exact E e
def fD {t:TypeId} (F:∀b,b∉σ.keys->K (.sc (.map (some b))) ((b,.map [])::σ)):RAW G P (.makeMap t none) env σ K ⟨⟩:=by
 intro ρ w a op I E J;have D:(w.alloc (.map #[] 0)).heap[w.heap.size]? =some (.map #[] 0):=heap_alloc_new w _;refine⟨.map (some w.heap.size),w.alloc (.map #[] 0),.sc (.map (some w.heap.size)),_,.inl ?_,F _ (ge E),E.alloc _ _ ⟨#[],0,D,rfl,by simp[RepL]⟩,Ev.alloc _ _,by simp only[Rep]⟩;simp[execOp,I,run_makeMap]
def aO (M:MapK P kT val) {xT eT:TypeId} {x ix:Operand} {D:Bool} {b:Nat} {l:List (κ×AV)} {k:κ} {z:Value} {zv:AV} (hx:(SOpd.of x).eval G env= .sc (.map (some b)))
  (X:∀τ w v,Rep τ w ((SOpd.of ix).eval G env) v->v=val k) (hu:P.underlying xT=some (.map kT eT)) (hg:σ.get b=some (.map (df val l))) (hz:(P.info? eT).bind (·.zero)=some z) (J:∀τ w,Rep τ w zv z)
  (hk:K (if D then .tup [(bt k l).getD zv,.bool (bt k l).isSome]else (bt k l).getD zv) σ):RAW G P (.lookup xT x ix D) env σ K ⟨⟩:=by
 refine dS _ (λρ w a op ho V hE=>?_) hk
 have N:=au V hE x
 have h2:=X _ _ _ (au V hE ix)
 rw[hx]at N
 simp only[Rep]at N
 obtain⟨ents,c,hh,Z,I⟩:=V.obj b _ (mem_append.2 (.inl (rv hg)))
 have e1:ents.toList.map (·.key)=l.map λp=>val p.1:=by rw[Z];simp[df]
 have e2:(df val l).map (·.2)=l.map (·.2):=by simp[df]
 rw[e2]at I
 have e3:=M.find k (l.map (·.1)) ents.toList w (by rw[e1];simp)
 have ac:(zeroValue eT).run P w= .ok z w:=by
  obtain⟨i,hi,Y⟩:=Option.bind_eq_some_iff.1 hz;have aa:(typeInfo eT).run P w= .ok i w:=run_typeInfo w hi;simp[zeroValue,aa,Y]
 have E:∀em,(Instr.checkKey em 10000 kT (val k)).run P w= .ok () w:=λem=>M.ck em k w
 have F:(getObj b).run P w= .ok (.map ents c) w:=by simp[getObj,Sem.run,hh]
 have ad:∀o,(setObj b o).run P w= .ok () {w with heap:=w.heap.setIfInBounds b o}:=λo=>by simp[setObj,Sem.run,hh]
 rcases mT k l ents.toList e1 I with⟨O,T⟩|⟨y,i,e,O,T,a3,a4,_,_⟩
 ·refine⟨if D then .tuple #[z,.bool false]else z,?_,?_⟩
  ·simp[execOp,ho,N,h2,Instr.lookup,run_underlying hu,F,E,e3,T,ac]
  ·rw[O]
   cases D with
   |false=>simpa using J _ _
   |true=>simp only[if_true,Option.getD_none,Option.isSome_none,Rep];exact⟨_,rfl,by simp only[RepL];exact⟨_,_,rfl,J _ _,_,_,rfl,by simp only[Rep],rfl⟩⟩
 ·refine⟨if D then .tuple #[e.val,.bool true]else e.val,?_,?_⟩
  ·simp[execOp,ho,N,h2,Instr.lookup,run_underlying hu,F,E,e3,T]
  ·rw[O]
   cases D with
   |false=>simpa using a4
   |true=>simp only[if_true,Option.getD_some,Option.isSome_some,Rep];exact⟨_,rfl,by simp only[RepL];exact⟨_,_,rfl,a4,_,_,rfl,by simp only[Rep],rfl⟩⟩
def fN (M:MapK P kT val) {xT eT:TypeId} {x ix y:Operand} {b:Nat} {l:List (κ×AV)} {k:κ} {yv:AV} (hx:(SOpd.of x).eval G env= .sc (.map (some b)))
  (ac:∀τ w v,Rep τ w ((SOpd.of ix).eval G env) v->v=val k) (hy:(SOpd.of y).eval G env=yv) (hu:P.underlying xT=some (.map kT eT)) (hg:σ.get b=some (.map (df val l)))
  (hk:K aG (σ.set b (.map (df val (d9 k yv l))))):RAW G P (.mapUpdate xT x ix y) env σ K ⟨⟩:=by
 intro ρ w a op ho F hE
 have Y:=au F hE x
 have h2:=ac _ _ _ (au F hE ix)
 have h3:=au F hE y
 rw[hx]at Y
 rw[hy]at h3
 simp only[Rep]at Y
 have hm:=rv hg
 obtain⟨ents,c,Z,ad,I⟩:=F.obj b _ (mem_append.2 (.inl hm))
 have e1:ents.toList.map (·.key)=l.map λp=>val p.1:=by rw[ad];simp[df]
 have e2:(df val l).map (·.2)=l.map (·.2):=by simp[df]
 rw[e2]at I
 have e3:=M.find k (l.map (·.1)) ents.toList w (by rw[e1];simp)
 have ah:b<w.heap.size:=(Array.getElem?_eq_some_iff.1 Z).1
 have N:∀(D:Array MapEntry) (J:Nat),D.toList.map (·.key)=((d9 k yv l).map λp=>val p.1)->RepL (σ++ρ) w ((d9 k yv l).map (·.2)) (D.toList.map (·.val))->
   Sat G (σ.set b (.map (df val (d9 k yv l)))++ρ) {w with heap:=w.heap.setIfInBounds b (.map D J)}/\Ev σ w (σ.set b (.map (df val (d9 k yv l)))) {w with heap:=w.heap.setIfInBounds b (.map D J)}:=by
  intro D J g1 g2
  have E:Ev σ w (σ.set b (.map (df val (d9 k yv l)))) {w with heap:=w.heap.setIfInBounds b (.map D J)}:=uM hm Z
  refine⟨?_,E⟩
  have V:=F.nodup_left
  refine F.step E (by rw[dV];exact V) (λk hk=>.inl (by rwa [dV]at hk)) ?_
  intro k' q hq
  rcases kP hq V with⟨rfl,rfl⟩|⟨al,hq⟩
  ·refine⟨D,J,by simp[ah],by rw[g1];simp[df],?_⟩
   have:=RepL.ev E _ _ g2
   have e4:(df val (d9 k yv l)).map (·.2)=(d9 k yv l).map (·.2):=by simp[df]
   rw[e4];exact this
  ·exact(F.obj k' q (mem_append.2 (.inl hq))).keep E (by simp[Ne.symm al])
 have O:∀em,(Instr.checkKey em 10000 kT (val k)).run P w= .ok () w:=λem=>M.ck em k w
 have T:(getObj b).run P w= .ok (.map ents c) w:=by simp[getObj,Sem.run,Z]
 have X:∀o,(setObj b o).run P w= .ok () {w with heap:=w.heap.setIfInBounds b o}:=λo=>by simp[setObj,Sem.run,Z]
 rcases mT k l ents.toList e1 I with⟨a1,a2⟩|⟨u,i,e,a1,a2,a3,a4,a5,a6⟩
 ·obtain⟨s1,s2⟩:=N (ents.push {key:=val k,val:=a.eval y,born:=c}) (c+1) (by rw[js a1];simp[e1]) (by
   rw[js a1]
   simp only[map_append,map_cons,map_nil,Array.toList_push]
   exact RepL.append I (by simp only[RepL];exact⟨_,_,rfl,h3,rfl⟩))
  refine⟨undef,_,aG,_,.inr ⟨?_,rfl⟩,hk,s1,s2,?_⟩
  ·simp[execOp,ho,Y,h2,Instr.mapUpdate,run_underlying hu,T,O,e3,a2,X]
  ·exact cJ _ _
 ·obtain⟨b1,b2⟩:=a6 (a.eval y) yv h3
  have an:=M.stays k w
  have aa:ents[i]? =some e:=by simpa using a3
  obtain⟨s1,s2⟩:=N (ents.modify i λe=>{e with key:=val k,val:=a.eval y}) c (by simpa[Array.toList_modify]using b2) (by simpa[Array.toList_modify]using b1);refine⟨undef,_,aG,_,.inr ⟨?_,rfl⟩,hk,s1,s2,?_⟩
  ·simp[execOp,ho,Y,h2,Instr.mapUpdate,run_underlying hu,T,O,e3,a2,aa,a5,an,X]
  ·exact cJ _ _
end
section
variable {P:Program}
def oX {t:TypeId} {fs:Array Field} {ks:List Nat} (M:P.underlying t=some (.struct fs)) (F:dY P 8 t=some ks) (us vs:Array Value) (r:Bool) (T:us.size=ks.length) (V:vs.size=ks.length)
  (N:eqK ks us.toList vs.toList=some r) (w':World):(Op.equalIn 10000 t (.agg us) (.agg vs)).run P w'= .ok r w':=by
 have D:P.stoodInHeld t=false/\∃E,fO (dY P 7) fs.toList 0=some E/\E=ks:=by
  simp only[dY,M]at F;split at F
  ·cases F
  rename_i D;split at F
  ·rename_i E I;split at F
   ·cases F;exact⟨by simpa using D,_,I,rfl⟩
   ·cases F
  ·cases F
 obtain⟨D,E,I,rfl⟩:=D
 have O:P.underlying t=some (.struct (P.fieldsOf t)):=by simp[Program.fieldsOf,M]
 have J:P.fieldsOf t=fs:=by simp[Program.fieldsOf,M]
 rw[run_equalIn_struct w' 9999 t _ _ O D,J]
 exact eF (flatOk P 7) fs.toList 0 E I 9998 us vs r (by omega) (by omega) (by omega) (by simpa using N) w'
def CheckF (P:Program) (em:Bool) (d:Nat):Prop:=
 ∀(t:TypeId) (ks:List Nat),dY P d t=some ks->∀(D:Nat) (xs:Array Value) (off:Nat),d<=D->off+ks.length<=xs.size->∀w':World,
  ∃u,(part t xs off).run P w'= .ok u w'/\(Instr.checkKey em D t u).run P w'= .ok () w'
def eo {em:Bool} {d:Nat} (F:CheckF P em d) (D:Nat) (I:d<=D) (xs:Array Value) (w':World):∀(fs:List Field) (off:Nat) (ks:List Nat),fO (dY P d) fs off=some ks->off+ks.length<=xs.size->
  ∀f∈fs,f.name≠ "_" /\∃u,(part f.type xs f.offset).run P w'= .ok u w'/\(Instr.checkKey em D f.type u).run P w'= .ok () w'
 |[],_,_,_,_,f,hf=>by cases hf
 |g::fs,off,ks,h,hx,f,hf=>by
  simp only[fO]at h;split at h
  ·cases h
  rename_i E;simp at E;split at h
  ·rename_i k1 J;split at h
   ·rename_i N M
    cases h
    simp only[length_append]at hx
    rcases mem_cons.1 hf with rfl|hf
    ·exact⟨E.1,F f.type k1 J D xs f.offset I (by rw[E.2];omega) w'⟩
    ·exact eo F D I xs w' fs _ N M (by omega) f hf
   ·cases h
  ·cases h
def gf {em:Bool} {t:TypeId} {fs:Array Field} (F:P.underlying t=some (.struct fs)) (D:Nat) (xs:Array Value) (w':World)
  (h:∀f∈fs.toList,f.name≠ "_" /\∃u,(part f.type xs f.offset).run P w'= .ok u w'/\(Instr.checkKey em D f.type u).run P w'= .ok () w'):(Instr.checkKey em (D+1) t (.agg xs)).run P w'= .ok () w':=by
 rw[Instr.checkKey]
 simp only[Sem.run_bind,run_underlying F,Result.andThen_ok]
 rw[←Array.forIn_toList]
 generalize fs.toList=L at h
 induction L with
 |nil=>simp
 |cons f L ih=>
  obtain⟨E,a,J,M⟩:=h f (by simp);simp only[forIn_cons,Sem.run_bind,E,ne_eq,not_false_eq_true,if_true,Result.andThen_ok,J,M,Sem.run_pure];exact ih λy I=>h y (by simp[I])
def checkF (em:Bool):∀d,CheckF P em d
 |0,t,ks,h=>by simp[dY]at h
 |d+1,t,ks,h=>by
  intro D xs off X T w';obtain⟨D',rfl⟩:∃D',D=D'+1:=⟨D-1,by omega⟩
  have one:∀k:TypeDesc,P.underlying t=some k->(k= .bool\/(∃q,k= .int q)\/k= .string)->ks.length=1->∃u,(part t xs off).run P w'= .ok u w'/\(Instr.checkKey em (D'+1) t u).run P w'= .ok () w':=by
   intro k E N Y;refine⟨xs[off]'(by omega),?_,?_⟩
   ·unfold part;rw[Sem.run_bind,cW E]
    rcases N with rfl|⟨q,rfl⟩|rfl<;>simp[aggD,show off<xs.size by omega]
   ·rw[Instr.checkKey];simp only[Sem.run_bind,run_underlying E,Result.andThen_ok]
    rcases N with rfl|⟨q,rfl⟩|rfl<;>rfl
  simp only[dY]at h;split at h
  ·rename_i E
   cases h
   exact one _ E (.inl rfl) rfl
  ·rename_i E
   cases h
   exact one _ E (.inr (.inl ⟨_,rfl⟩)) rfl
  ·rename_i E
   cases h
   exact one _ E (.inr (.inr rfl)) rfl
  ·rename_i fs E;split at h
   ·cases h
   rename_i O;split at h
   ·rename_i V J;split at h
    ·rename_i M
     cases h
     have I:bC P t=some ks.length:=by simpa using M
     have F:aggD (.struct fs)=true:=rfl;refine⟨_,ie E I xs off (by simp[F]) T w',?_⟩;simp only[F,if_true];refine gf E D' _ w' (eo (checkF em d) D' (by omega) _ w' fs.toList 0 ks J (by simp;omega))
    ·cases h
   ·cases h
  ·cases h
def jv (n:Nat) (k:IntKind) (a:Int):Instr.sameBits n (.int k a) (.int k a)=true:=by cases n<;>simp[Instr.sameBits]
def od (n:Nat) (s:ByteArray):Instr.sameBits n (.string s) (.string s)=true:=by
 obtain⟨d⟩:=s
 have h:((⟨d⟩:ByteArray)==⟨d⟩)=true:=by show(d==d)=true;simp
 cases n<;>simp[Instr.sameBits,h]
def py {α:Type}:∀l:List α,l.zip l=l.map λx=>(x,x)
 |[]=>rfl
 |x::l=>by simp[py l]
def nD {t:TypeId} {fs:Array Field} {ks:List Nat} (M:P.underlying t=some (.struct fs)) (E:dY P 8 t=some ks) {κ:Type} [DecidableEq κ] (vals:κ->List Value) (V:∀k,(vals k).length=ks.length)
  (T:∀a b,eqK ks (vals a) (vals b)=some (decide (a=b))) (Z:∀k,∀v∈vals k,∀n,Instr.sameBits n v v=true):MapK P t (λk=>.agg (vals k).toArray) where
 ck em k w:=by
  have J:∃D,fO (dY P 7) fs.toList 0=some D/\D=ks:=by
   simp only[dY,M]at E;split at E
   ·cases E
   rename_i J;split at E
   ·rename_i D I;split at E
    ·cases E;exact⟨_,I,rfl⟩
    ·cases E
   ·cases E
  obtain⟨D,I,rfl⟩:=J;exact gf M 9999 _ w (eo (checkF em 7) 9999 (by omega) _ w fs.toList 0 D I (by simp[V]))
 find k l ents w F:=by
  have Y:∀b:κ,(Op.equal t (.agg (vals k).toArray) (.agg (vals b).toArray)).run P w= .ok (decide (k=b)) w:=λb=>
   oX M E _ _ _ (by simp[V]) (by simp[V]) (by simpa using T k b) w
  have N:∀(l:List κ) (ents:List MapEntry) (i:Nat),ents.map (·.key)=l.map (λk=>Value.agg (vals k).toArray)->
    (Instr.findAsking t (.agg (vals k).toArray) ents i).run P w= .ok ((((l.zip ents).zipIdx i).find? λq=>decide (q.1.1=k)).map λq=>(q.2,q.1.2.val)) w:=by
   intro l
   induction l with
   |nil=>
    intro ents i F
    cases ents with
    |nil=>simp[Instr.findAsking]
    |cons e es=>simp at F
   |cons b l ih=>
    intro ents i F
    cases ents with
    |nil=>simp at F
    |cons e es=>
     simp only[map_cons,List.cons.injEq]at F;simp only[Instr.findAsking,Sem.run_bind,F.1,Y b,Result.andThen_ok,zip_cons_cons,zipIdx_cons,find?_cons];by_cases O:k=b
     ·subst O;simp
     ·have:decide (b=k)=false:=by simp;exact λe=>O e.symm
      simp only[decide_eq_false O,this,Bool.false_eq_true,if_false];exact ih es (i+1) F.2
  have X:(Instr.findKey t (.agg (vals k).toArray) ents).run P w=(Instr.findAsking t (.agg (vals k).toArray) ents 0).run P w:=by
   cases ents with
   |nil=>simp[Instr.findKey,run_underlying M,Instr.findNow,Instr.findAsking]
   |cons e es=>simp[Instr.findKey,run_underlying M,Instr.findNow,Instr.sameNow]
  rw[X];exact N l ents 0 F
 stays k w:=by
  have h:Instr.sameBits 10000 (.agg (vals k).toArray) (.agg (vals k).toArray)=true:=by
   simp only[Instr.sameBits,beq_self_eq_true,Bool.true_and,py,all_map,all_eq_true,Function.comp];intro v hv;exact Z k v (by simpa using hv) _
  simp[Instr.keyThatStays,h]
def qN {G:Glob} {env:Env} {σ:Store} {K:AV->Store->Prop} {x:Operand} {J kT eT:TypeId} {b:Nat} {es:List (Value×AV)} (hx:(SOpd.of x).eval G env= .sc (.map (some b))) (Y:P.underlying J=some (.map kT eT)) (N:σ.get b=some (.map es))
  (T:K (.i es.length) σ):RAW G P (.call (.mk (.builtin .len) #[x] #[J])) env σ K ⟨⟩:=by
 refine dS _ (λρ w a op X I M=>?_) T
 have D:=au I M x
 rw[hx]at D
 simp only[Rep]at D
 obtain⟨ents,c,O,F,Z⟩:=I.obj b _ (mem_append.2 (.inl (rv N)))
 have V:ents.size=es.length:=by have:=congrArg List.length F;simpa using this
 refine⟨.i es.length,?_,by simp only[Rep]⟩
 have E:(getObj b).run P w= .ok (.map ents c) w:=by simp[getObj,Sem.run,O]
 simp[execOp,X,resolve,invoke,builtin,D,Builtin.len_,run_underlying Y,E,V]
 rfl
end
end Go.Av
