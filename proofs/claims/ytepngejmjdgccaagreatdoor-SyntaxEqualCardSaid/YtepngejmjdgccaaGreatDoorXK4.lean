/-
  CONCRETE RUNS, 4: operations that the small language lacks, by reckoning: maps with keys that are integers or texts; texts and bytes.
-/
import Derived.Test.YtepngejmjdgccaaGreatDoorXK3
import Derived.Test.YtepngejmjdgccaaGreatDoorXAv27toXAv28
import Derived.Test.YtepngejmjdgccaaGreatDoorXAv17toXAv23
import Derived.WideLaws
import Derived.Laws.Entries
namespace Go.Av
open Go Go.RowKit Go.MapKept
set_option linter.unusedSimpArgs false
set_option linter.unusedVariables false
theorem find_str (k:List UInt8):∀(l:List (List UInt8)) (ents:List MapEntry) (i:Nat),ents.map (·.key)=l.map (λs=>Value.string ⟨⟨s⟩⟩)->
  Instr.findNow .string (.string ⟨⟨k⟩⟩) ents i=some ((((l.zip ents).zipIdx i).find? λq=>decide (q.1.1=k)).map λq=>(q.2,q.1.2.val))
 |[],[],i,_=>by simp[Instr.findNow]
 |[],e::es,i,h=>by simp at h
 |b::l,[],i,h=>by simp at h
 |b::l,e::es,i,h=>by
  simp only[List.map_cons,List.cons.injEq]at h
  simp only[Instr.findNow,h.1,Instr.sameNow,if_true,List.zip_cons_cons,List.zipIdx_cons,List.find?_cons]
  by_cases hb:k=b
  ·subst hb
   have h1:((⟨⟨k⟩⟩:ByteArray)==⟨⟨k⟩⟩)=true:=(bytes_beq _ _).2 rfl
   simp[h1]
  ·have h1:((⟨⟨k⟩⟩:ByteArray)==⟨⟨b⟩⟩)=false:=by
    rw[←Bool.not_eq_true]
    intro e
    exact hb (congrArg (λa:ByteArray=>a.data.toList) ((bytes_beq _ _).1 e))
   have h2:decide (b=k)=false:=by simp;exact λe=>hb e.symm
   simp only[h1,h2]
   exact find_str k l es (i+1) h.2
theorem mapK_str {P:Program} {kT:TypeId} (hu:P.underlying kT=some .string):MapK P kT (λs:List UInt8=>Value.string ⟨⟨s⟩⟩) where
 ck em k w:=run_checkKey hu (by simp[IsKey]) em 9999
 find k l ents w he:=run_findKey hu (find_str k l ents 0 he)
 stays k w:=run_keyThatStays (d:=.string) (by simp[IsKey])
structure KK (κ:Type) [DecidableEq κ] where
 val:κ->Value
 ofV:Value->Option κ
 ofV_ok:∀{v k},ofV v=some k->v=val k
 av:κ->AV
 ofA:AV->Option κ
 ofA_ok:∀{x k},ofA x=some k->x=av k
 ren:∀(ρ:Ren) k,(av k).ren ρ=av k
 rep:∀{τ w v k},Rep τ w (av k) v->v=val k
 kd:TypeDesc->Bool
 ok:∀{P:Program} {kT:TypeId} {d:TypeDesc},P.underlying kT=some d->kd d=true->MapK P kT val
def kkInt:KK Int where
 val n:=.int .i64 n
 ofV:=λ
  | .int .i64 n=>some n
  |_=>none
 ofV_ok h:=by split at h<;>cases h;rfl
 av n:=.int .i64 n
 ofA:=λ
  | .int .i64 n=>some n
  |_=>none
 ofA_ok h:=by split at h<;>cases h;rfl
 ren ρ k:=by rw[AV.ren]
 rep h:=by simpa only[Rep]using h
 kd:=λ
  | .int .i64=>true
  |_=>false
 ok hu hk:=by split at hk<;>first|exact mapK_int hu|cases hk
def kkStr:KK (List UInt8) where
 val s:=.string ⟨⟨s⟩⟩
 ofV:=λ
  | .string ⟨⟨s⟩⟩=>some s
  |_=>none
 ofV_ok h:=by split at h<;>cases h;rfl
 av s:=.str s
 ofA:=λ
  | .str s=>some s
  |_=>none
 ofA_ok h:=by split at h<;>cases h;rfl
 ren ρ k:=by rw[AV.ren]
 rep h:=by simpa only[Rep]using h
 kd:=λ
  | .string=>true
  |_=>false
 ok hu hk:=by split at hk<;>first|exact mapK_str hu|cases hk
section
variable {κ:Type} [DecidableEq κ] (Q:KK κ)
def mapRows:List (Value×AV)->Option (List (κ×AV))
 |[]=>some []
 |(v,x)::es=>match Q.ofV v,mapRows es with
  |some k,some l=>some ((k,x)::l)
  |_,_=>none
theorem mapRows_ok:∀{es:List (Value×AV)} {l:List (κ×AV)},mapRows Q es=some l->es=mrows Q.val l
 |[],l,h=>by cases h;rfl
 |(v,x)::es,l,h=>by
  simp only[mapRows]at h
  split at h
  ·rename_i k l' hv hl
   cases h
   rw[mapRows_ok hl,Q.ofV_ok hv];rfl
  ·cases h
def mapAt (σ:Store) (x:AV):Option (Nat×List (κ×AV)):=
 match x with
 | .sc (.map (some b))=>match σ.get b with
  |some (.map es)=>match mapRows Q es with
   |some l=>some (b,l)
   |none=>none
  |_=>none
 |_=>none
theorem mapAt_ok {σ:Store} {x:AV} {b:Nat} {l:List (κ×AV)} (h:mapAt Q σ x=some (b,l)):x= .sc (.map (some b))/\σ.get b=some (.map (mrows Q.val l)):=by
 unfold mapAt at h
 split at h
 ·split at h
  ·rename_i hg
   split at h
   ·rename_i hl;cases h;exact⟨rfl,by rw[hg,mapRows_ok Q hl]⟩
   ·cases h
  ·cases h
 ·cases h
def mapTy (P:Program) (xT:TypeId):Option TypeId:=
 match P.underlying xT with
 |some (.map kT eT)=>match P.underlying kT with
  |some d=>if Q.kd d then some eT else none
  |none=>none
 |_=>none
theorem mapTy_ok {P:Program} {xT eT:TypeId} (h:mapTy Q P xT=some eT):∃kT,P.underlying xT=some (.map kT eT)/\MapK P kT Q.val:=by
 unfold mapTy at h
 split at h
 ·rename_i hu
  split at h
  ·rename_i hk
   split at h
   ·rename_i hd;cases h;exact⟨_,hu,Q.ok hk hd⟩
   ·cases h
  ·cases h
 ·cases h
def renM (ρ:Ren) (l:List (κ×AV)):List (κ×AV):=l.map λp=>(p.1,p.2.ren ρ)
theorem mrows_ren (ρ:Ren) (l:List (κ×AV)):AObj.ren ρ (.map (mrows Q.val l))= .map (mrows Q.val (renM ρ l)):=by simp[AObj.ren,mrows,renM]
theorem mgets_ren (ρ:Ren) (k:κ):∀l:List (κ×AV),mgets k (renM ρ l)=(mgets k l).map (AV.ren ρ)
 |[]=>rfl
 |p::l=>by
  have ih:=mgets_ren ρ k l
  simp only[renM,List.map_cons,mgets]at*
  split
  ·rfl
  ·exact ih
theorem mputs_ren (ρ:Ren) (k:κ) (v:AV):∀l:List (κ×AV),renM ρ (mputs k v l)=mputs k (v.ren ρ) (renM ρ l)
 |[]=>rfl
 |p::l=>by
  have ih:=mputs_ren ρ k v l
  simp only[renM,mputs,List.map_cons]at*
  split
  ·rfl
  ·simp only[List.map_cons];rw[ih]
variable (G:Glob) (P:Program)
def putE (xT:TypeId) (x ix y:Operand) (env:Env) (σ:Store) (n:Nat):Option (AV×Store×Nat):=
 match (opdE G env (SOpd.of x)).bind (mapAt Q σ),(opdE G env (SOpd.of ix)).bind Q.ofA,opdE G env (SOpd.of y),mapTy Q P xT with
 |some (b,l),some k,some v,some _=>some (undefAV,σ.set b (.map (mrows Q.val (mputs k v l))),n)
 |_,_,_,_=>none
def lookE (xT:TypeId) (x ix:Operand) (cm:Bool) (env:Env) (σ:Store) (n:Nat):Option (AV×Store×Nat):=
 match (opdE G env (SOpd.of x)).bind (mapAt Q σ),(opdE G env (SOpd.of ix)).bind Q.ofA,(mapTy Q P xT).bind λeT=>(P.info? eT).bind (·.zero)with
 |some (_,l),some k,some z=>if cheap (AV.ofValue z)then some (if cm then .tup [(mgets k l).getD (AV.ofValue z),.bool (mgets k l).isSome]else (mgets k l).getD (AV.ofValue z),σ,n)else none
 |_,_,_=>none
end
def orE {α:Type} (x:Option α) (y:Option α):Option α:=match x with
 |some a=>some a
 |none=>y
theorem orE_ok {α:Type} {x y:Option α} {a:α} (h:orE x y=some a):x=some a\/y=some a:=by
 unfold orE at h
 split at h
 ·exact .inl h
 ·exact .inr h
def bytesE:List (List AV)->Option (List UInt8)
 |[]=>some []
 |[.int .u8 n]::rs=>match bytesE rs with
  |some l=>if 0<=n/\n<256 then some (UInt8.ofNat n.toNat::l)else none
  |none=>none
 |_::_=>none
theorem bytesE_ok:∀{rs:List (List AV)} {l:List UInt8},bytesE rs=some l->rs=byteRows l
 |[],l,h=>by cases h;rfl
 |[.int .u8 n]::rs,l,h=>by
  simp only[bytesE]at h
  split at h
  ·rename_i l' hl
   split at h
   ·rename_i hn
    cases h
    rw[bytesE_ok hl]
    simp only[byteRows,List.map_cons,List.cons.injEq,and_true,AV.int.injEq,true_and]
    rw[UInt8.toNat_ofNat'];omega
   ·cases h
  ·cases h
 |[]::rs,l,h=>by simp[bytesE]at h
def bytesOfE:AV->Option (List UInt8)
 | .nil=>some []
 | .lst 1 rows=>bytesE rows
 | .own _ _ 1 rows=>bytesE rows
 |_=>none
section
variable (G:Glob) (P:Program)
def convE (src dst:TypeId) (i:Nat) (env:Env) (σ:Store) (n:Nat):Option (AV×Store×Nat):=
 match P.underlying src,P.underlying dst with
 |some .string,some (.slice e)=>match P.underlying e,env.get i with
  |some (.int .u8),.str l=>if l.length<1000000 then some (.lst 1 (byteRows l),σ,n)else none
  |_,_=>none
 |some (.slice e),some .string=>match P.underlying e,bytesOfE (env.get i)with
  |some (.int .u8),some l=>some (.str l,σ,n)
  |_,_=>none
 |_,_=>none
def ifnE (op:BinOp) (t:TypeId) (i:Nat) (env:Env) (σ:Store) (n:Nat):Option (AV×Store×Nat):=
 match P.underlying t,op,env.get i with
 |some (.interface _),.eql,.sc .nilIface=>some (.bool true,σ,n)
 |some (.interface _),.neq,.sc .nilIface=>some (.bool false,σ,n)
 |some (.interface _),.eql,.sc (.iface _ _)=>some (.bool false,σ,n)
 |some (.interface _),.neq,.sc (.iface _ _)=>some (.bool true,σ,n)
 |_,_,_=>none
def rigE:AV->Option Value
 | .bool b=>some (.bool b)
 | .int k n=>some (.int k n)
 | .str s=>some (.string ⟨⟨s⟩⟩)
 | .nil=>some (.slice none 0 0)
 |_=>none
theorem rigE_ok {τ:Store} {w:World} {x:AV} {v u:Value} (h:rigE x=some v) (hr:Rep τ w x u):u=v:=by
 unfold rigE at h
 split at h<;>cases h<;>simpa only[Rep]using hr
theorem rigE_ren (ρ:Ren) {x:AV} {v:Value} (h:rigE x=some v):x.ren ρ=x:=by
 unfold rigE at h
 split at h<;>cases h<;>rw[AV.ren]
def partsE (env:Env):List (Nat×Operand)->Option (List (Nat×Value))
 |[]=>some []
 |(i,x)::rest=>match (opdE G env (SOpd.of x)).bind rigE,partsE env rest with
  |some v,some vs=>some ((i,v)::vs)
  |_,_=>none
def bldE (t:TypeId) (parts:Array (Nat×Operand)) (env:Env) (σ:Store) (n:Nat):Option (AV×Store×Nat):=
 match (partsE G env parts.toList).bind (P.built t)with
 |some cells=>if cheap (AV.ofValue (.agg cells))then some (AV.ofValue (.agg cells),σ,n)else none
 |none=>none
def rawE (op:Op) (env:Env) (σ:Store) (n:Nat):Option (AV×Store×Nat):=
 match op with
 | .makeMap _ none=>some (.sc (.map (some n)),(n,.map [])::σ,n+1)
 | .insert xT x ix y=>orE (putE kkInt G P xT x ix y env σ n) (putE kkStr G P xT x ix y env σ n)
 | .mapUpdate xT x ix y=>orE (putE kkInt G P xT x ix y env σ n) (putE kkStr G P xT x ix y env σ n)
 | .lookup xT x ix cm=>orE (lookE kkInt G P xT x ix cm env σ n) (lookE kkStr G P xT x ix cm env σ n)
 | .convert src dst (.tmp i)=>convE P src dst i env σ n
 | .binOp op t (.tmp i) (.const .nilIface) _=>ifnE P op t i env σ n
 | .build t parts=>bldE G P t parts env σ n
 |_=>none
def rawB (op:Op) (env:Env) (σ:Store) (n:Nat) (K:KB):Bool:=
 match rawE G P op env σ n with
 |some (r,σ',n')=>K r σ' n'
 |none=>false
end
section
variable {G:Glob} {P:Program} {env:Env} {σ:Store} {n:Nat} {ρ:Ren} {K:AV->Store->Prop}
def Goes1 (n:Nat) (ρ:Ren) (r:AV) (σ':Store) (n':Nat) (K:AV->Store->Prop):Prop:=
 ∀ρ',Agr n ρ ρ'->n<=n'->SOk ρ' σ'->K (r.ren ρ') (σ'.ren ρ')
theorem putE_ok {κ:Type} [DecidableEq κ] (Q:KK κ) {xT:TypeId} {x ix y:Operand} {r:AV} {σ':Store} {n':Nat} (h:putE Q G P xT x ix y env σ n=some (r,σ',n')) (hs:SOk ρ σ) (hK:Goes1 n ρ r σ' n' K):
  RawOp G P (.insert xT x ix y) (env.ren ρ) (σ.ren ρ) K/\RawOp G P (.mapUpdate xT x ix y) (env.ren ρ) (σ.ren ρ) K:=by
 unfold putE at h
 split at h
 ·rename_i b l k v eT h1 h2 h3 h4
  cases h
  obtain⟨u,hu,h1⟩:=bind_ok h1
  obtain⟨rfl,hg⟩:=mapAt_ok Q h1
  obtain⟨w,hw,h2⟩:=bind_ok h2
  obtain rfl:=Q.ofA_ok h2
  obtain⟨kT,t1,t2⟩:=mapTy_ok Q h4
  obtain⟨b',hb⟩:=hs.live _ (Store.get_mem hg) rfl
  have hx:=opdE_ok (ρ:=ρ) hu
  have hix:=opdE_ok (ρ:=ρ) hw
  have hy:=opdE_ok (ρ:=ρ) h3
  simp only[AV.ren,renV,hb,Option.getD_some]at hx
  rw[Q.ren]at hix
  have hg':=hs.get hg hb
  rw[mrows_ren]at hg'
  have hk:=hK ρ (Agr.refl n ρ) (Nat.le_refl n) (hs.setOk (y:=.map (mrows Q.val (mputs k v l))) hb (Store.get_mem hg))
  rw[SOk.set hb hs (Store.get_mem hg),mrows_ren,mputs_ren]at hk
  have hix':∀τ w v,Rep τ w ((SOpd.of ix).eval G (env.ren ρ)) v->v=Q.val k:=by
   intro τ w v hr;rw[hix]at hr;exact Q.rep hr
  simp only[undefAV,AV.ren,renL]at hk
  exact⟨RAW_insert t2 hx hix' hy t1 hg' hk,RAW_mapUpdate t2 hx hix' hy t1 hg' hk⟩
 ·cases h
theorem lookE_ok {κ:Type} [DecidableEq κ] (Q:KK κ) {xT:TypeId} {x ix:Operand} {cm:Bool} {r:AV} {σ':Store} {n':Nat} (h:lookE Q G P xT x ix cm env σ n=some (r,σ',n')) (hs:SOk ρ σ) (hK:Goes1 n ρ r σ' n' K):
  RawOp G P (.lookup xT x ix cm) (env.ren ρ) (σ.ren ρ) K:=by
 unfold lookE at h
 split at h
 ·rename_i b l k z h1 h2 h3
  split at h
  ·rename_i hz0
   cases h
   obtain⟨u,hu,h1⟩:=bind_ok h1
   obtain⟨rfl,hg⟩:=mapAt_ok Q h1
   obtain⟨w,hw,h2⟩:=bind_ok h2
   obtain rfl:=Q.ofA_ok h2
   obtain⟨eT,h4,hz⟩:=bind_ok h3
   obtain⟨kT,t1,t2⟩:=mapTy_ok Q h4
   obtain⟨b',hb⟩:=hs.live _ (Store.get_mem hg) rfl
   have hx:=opdE_ok (ρ:=ρ) hu
   have hix:=opdE_ok (ρ:=ρ) hw
   simp only[AV.ren,renV,hb,Option.getD_some]at hx
   rw[Q.ren]at hix
   have hg':=hs.get hg hb
   rw[mrows_ren]at hg'
   have hix':∀τ w v,Rep τ w ((SOpd.of ix).eval G (env.ren ρ)) v->v=Q.val k:=by
    intro τ w v hr;rw[hix]at hr;exact Q.rep hr
   refine RAW_lookup t2 hx hix' t1 hg' hz (zv:=AV.ofValue z) (λτ w=>Rep.ofValue τ w z) ?_
   have hk:=hK ρ (Agr.refl n ρ) (Nat.le_refl n) hs
   have e:((mgets k l).getD (AV.ofValue z)).ren ρ=(mgets k (renM ρ l)).getD (AV.ofValue z):=by
    rw[mgets_ren]
    cases mgets k l with
    |none=>exact AV.ren_lo0 (cheap_ok hz0)
    |some x=>rfl
   have e2:(mgets k (renM ρ l)).isSome=(mgets k l).isSome:=by rw[mgets_ren];simp
   cases cm with
   |true=>simpa only[AV.ren,renL,e,e2,if_true]using hk
   |false=>simpa only[Bool.false_eq_true,e,if_false]using hk
  ·cases h
 ·cases h
theorem byteRows_lo (l:List UInt8):loR 0 (byteRows l)=true:=by
 unfold byteRows
 induction l with
 |nil=>rfl
 |cons a l ih=>simp only[List.map_cons,loR,loL,AV.lo,Bool.true_and,ih]
theorem convE_ok {src dst:TypeId} {i:Nat} {r:AV} {σ':Store} {n':Nat} (h:convE P src dst i env σ n=some (r,σ',n')) (hs:SOk ρ σ) (hK:Goes1 n ρ r σ' n' K):RawOp G P (.convert src dst (.tmp i)) (env.ren ρ) (σ.ren ρ) K:=by
 unfold convE at h
 split at h
 ·rename_i e h1 h2
  split at h
  ·rename_i l h3 h4
   split at h
   ·rename_i hl
    cases h
    have hk:=hK ρ (Agr.refl n ρ) (Nat.le_refl n) hs
    rw[AV.ren_lo0 (x:=.lst 1 (byteRows l)) (by rw[AV.lo];exact byteRows_lo l)]at hk
    exact RAW_strBytes (by rw[Env.ren_get,h4,AV.ren]) (by omega) h1 h2 h3 hk
   ·cases h
  ·cases h
 ·rename_i e h1 h2
  split at h
  ·rename_i l h3 h4
   cases h
   have hk:=hK ρ (Agr.refl n ρ) (Nat.le_refl n) hs
   rw[AV.ren]at hk
   refine RAW_bytesStr ?_ h1 h3 h2 hk
   rw[Env.ren_get]
   unfold bytesOfE at h4
   split at h4
   ·cases h4
    rw[‹env.get i= .nil›,AV.ren]
    exact .inl (.inr rfl)
   ·rw[‹env.get i=_›,AV.ren,bytesE_ok h4]
    have:=AV.ren_lo0 (ρ:=ρ) (x:=.lst 1 (byteRows l)) (by rw[AV.lo];exact byteRows_lo l)
    rw[AV.ren]at this
    rw[this]
    exact AVle.rfl' _
   ·rw[‹env.get i=_›,AV.ren,bytesE_ok h4]
    have:=AV.ren_lo0 (ρ:=ρ) (x:=.lst 1 (byteRows l)) (by rw[AV.lo];exact byteRows_lo l)
    rw[AV.ren]at this
    injection this with _ this
    rw[this]
    exact .inl (.inr ⟨rfl,rfl⟩)
   ·cases h4
  ·cases h
 ·cases h
theorem meths {t:TypeId} {ms:Array (String×TypeId)} (h:P.underlying t=some (.interface ms)):P.underlying t=some (.interface (P.methodsAt t)):=by
 rw[h];simp[Program.methodsAt,h]
theorem RAW_bin {op:BinOp} {t u:TypeId} {i:Nat} {v c:Value} {b:Bool} {env:Env} {σ:Store} (he:env.get i= .sc v) (hg:eqGuard op t (.tmp i) (.const c) v c=pure ()) (hb:∀w,(binOp op t v c).run P w= .ok (.bool b) w) (hk:K (.bool b) σ):
  RAW G P (.binOp op t (.tmp i) (.const c) u) env σ K ⟨⟩:=by
 refine RAW_quiet _ (λρ w a o ho hS hE=>?_) hk
 have h1:=hE i
 rw[he]at h1
 simp only[Rep]at h1
 refine⟨.bool b,?_,by simp only[Rep]⟩
 have h3:a.eval (.tmp i)=v:=h1
 have h4:a.eval (.const c)=c:=rfl
 simp[execOp,ho,h3,h4,hg,hb]
theorem ifnE_ok {op:BinOp} {t u:TypeId} {i:Nat} {r:AV} {σ':Store} {n':Nat} (h:ifnE P op t i env σ n=some (r,σ',n')) (hs:SOk ρ σ) (hK:Goes1 n ρ r σ' n' K):RawOp G P (.binOp op t (.tmp i) (.const .nilIface) u) (env.ren ρ) (σ.ren ρ) K:=by
 unfold ifnE at h
 split at h<;>cases h<;>
  (rename_i ms hu he
   have hk:=hK ρ (Agr.refl n ρ) (Nat.le_refl n) hs
   simp only[AV.ren]at hk
   have he':=Env.ren_get (ρ:=ρ) env i
   rw[he]at he'
   simp only[AV.ren,renV]at he')
 ·exact RAW_bin he' (eqGuard_nil_constR _ _ _ _) (λw=>run_eql_nil_nil w t (meths hu)) hk
 ·exact RAW_bin he' (eqGuard_nil_constR _ _ _ _) (λw=>run_neq_nil_nil w t (meths hu)) hk
 ·exact RAW_bin he' (by rfl) (λw=>run_eql_held_nil w t _ _ (meths hu)) hk
 ·exact RAW_bin he' (by rfl) (λw=>run_neq_held_nil w t _ _ (meths hu)) hk
theorem ifnE_lo (l2:loS n σ=true) {op:BinOp} {t:TypeId} {i:Nat} {r:AV} {σ':Store} {n':Nat} (h:ifnE P op t i env σ n=some (r,σ',n')):r.lo n'=true/\loS n' σ'=true:=by
 unfold ifnE at h
 split at h<;>cases h<;>exact⟨by rw[AV.lo],l2⟩
theorem partsE_ok {τ:Store} {a:Act} {w:World}:∀{l:List (Nat×Operand)} {vs:List (Nat×Value)},partsE G env l=some vs->(∀x:Operand,Rep τ w ((SOpd.of x).eval G (env.ren ρ)) (a.eval x))->l.map (λp=>(p.1,a.eval p.2))=vs
 |[],vs,h,_=>by cases h;rfl
 |(i,x)::rest,vs,h,hE=>by
  simp only[partsE]at h
  split at h
  ·rename_i v us hv hu
   cases h
   obtain⟨y,hy,hr⟩:=bind_ok hv
   have h1:=hE x
   rw[opdE_ok (ρ:=ρ) hy,rigE_ren ρ hr]at h1
   simp only[List.map_cons,rigE_ok hr h1,partsE_ok hu hE]
  ·cases h
theorem bldE_ok {t:TypeId} {parts:Array (Nat×Operand)} {r:AV} {σ':Store} {n':Nat} (h:bldE G P t parts env σ n=some (r,σ',n')) (hs:SOk ρ σ) (hK:Goes1 n ρ r σ' n' K):RawOp G P (.build t parts) (env.ren ρ) (σ.ren ρ) K:=by
 unfold bldE at h
 split at h
 ·rename_i cells hc
  split at h
  ·rename_i hl
   cases h
   obtain⟨vs,hv,hc⟩:=bind_ok hc
   have hk:=hK ρ (Agr.refl n ρ) (Nat.le_refl n) hs
   rw[AV.ren_lo0 (cheap_ok hl)]at hk
   refine RAW_quiet _ (λτ w a o ho hS hE=>?_) hk
   refine⟨.agg cells,?_,Rep.ofValue _ _ _⟩
   have e1:=partsE_ok (a:=a) (w:=w) (ρ:=ρ) hv λx=>eval_rep hS hE x
   have e2:(parts.map λp=>(p.1,a.eval p.2)).toList=vs:=by rw[Array.toList_map,e1]
   have:=run_build (P:=P) w t (parts.map λp=>(p.1,a.eval p.2)) cells (by rw[e2];exact hc)
   simp[execOp,ho,this]
  ·cases h
 ·cases h
theorem bldE_lo (l2:loS n σ=true) {t:TypeId} {parts:Array (Nat×Operand)} {r:AV} {σ':Store} {n':Nat} (h:bldE G P t parts env σ n=some (r,σ',n')):r.lo n'=true/\loS n' σ'=true:=by
 unfold bldE at h
 split at h
 ·split at h
  ·rename_i hl
   cases h
   exact⟨AV.lo_mono (Nat.zero_le n) _ (cheap_ok hl),l2⟩
  ·cases h
 ·cases h
theorem mrows_lo {κ:Type} (v:κ->Value) {m:Nat} {l:List (κ×AV)}:AObj.lo m (.map (mrows v l))=true↔∀p∈l,p.2.lo m=true:=by
 simp only[AObj.lo,mrows,List.all_map,List.all_eq_true]
 rfl
theorem mputs_lo {κ:Type} [DecidableEq κ] {m:Nat} {k:κ} {x:AV} (hx:x.lo m=true):∀{l:List (κ×AV)},(∀p∈l,p.2.lo m=true)->∀p∈mputs k x l,p.2.lo m=true
 |[],_,p,hp=>by
  simp only[mputs,List.mem_singleton]at hp
  rw[hp];exact hx
 |q::l,h,p,hp=>by
  simp only[mputs]at hp
  split at hp
  ·rcases List.mem_cons.1 hp with rfl|hp
   ·exact hx
   ·exact h p (by simp[hp])
  ·rcases List.mem_cons.1 hp with rfl|hp
   ·exact h _ (by simp)
   ·exact mputs_lo hx (λp hp=>h p (by simp[hp])) p hp
theorem mgets_lo {κ:Type} [DecidableEq κ] {m:Nat} {k:κ} {z:AV} (hz:z.lo m=true):∀{l:List (κ×AV)},(∀p∈l,p.2.lo m=true)->((mgets k l).getD z).lo m=true
 |[],_=>hz
 |q::l,h=>by
  simp only[mgets]
  split
  ·exact h q (by simp)
  ·exact mgets_lo hz λp hp=>h p (by simp[hp])
theorem putE_lo {κ:Type} [DecidableEq κ] (Q:KK κ) (l1:loE n env=true) (l2:loS n σ=true) {xT:TypeId} {x ix y:Operand} {r:AV} {σ':Store} {n':Nat} (h:putE Q G P xT x ix y env σ n=some (r,σ',n')):r.lo n'=true/\loS n' σ'=true:=by
 unfold putE at h
 split at h
 ·rename_i b l k v eT h1 h2 h3 h4
  cases h
  obtain⟨u,hu,h1⟩:=bind_ok h1
  obtain⟨rfl,hg⟩:=mapAt_ok Q h1
  have hm:=loS_get l2 hg
  exact⟨undef_lo,loS_set l2 hm.1 ((mrows_lo Q.val).2 (mputs_lo (opdE_lo l1 h3) ((mrows_lo Q.val).1 hm.2)))⟩
 ·cases h
theorem lookE_lo {κ:Type} [DecidableEq κ] (Q:KK κ) (l2:loS n σ=true) {xT:TypeId} {x ix:Operand} {cm:Bool} {r:AV} {σ':Store} {n':Nat} (h:lookE Q G P xT x ix cm env σ n=some (r,σ',n')):r.lo n'=true/\loS n' σ'=true:=by
 unfold lookE at h
 split at h
 ·rename_i b l k z h1 h2 h3
  split at h
  ·rename_i hz0
   cases h
   obtain⟨u,hu,h1⟩:=bind_ok h1
   obtain⟨rfl,hg⟩:=mapAt_ok Q h1
   have hm:=loS_get l2 hg
   have hv:((mgets k l).getD (AV.ofValue z)).lo n=true:=mgets_lo (AV.lo_mono (Nat.zero_le n) _ (cheap_ok hz0)) ((mrows_lo Q.val).1 hm.2)
   refine⟨?_,l2⟩
   cases cm with
   |true=>simp only[if_true,AV.lo,loL,hv,Bool.and_self]
   |false=>simpa only[Bool.false_eq_true,if_false]using hv
  ·cases h
 ·cases h
theorem convE_lo (l2:loS n σ=true) {src dst:TypeId} {i:Nat} {r:AV} {σ':Store} {n':Nat} (h:convE P src dst i env σ n=some (r,σ',n')):r.lo n'=true/\loS n' σ'=true:=by
 unfold convE at h
 split at h
 ·split at h
  ·split at h
   ·cases h
    exact⟨by rw[AV.lo];exact loR_mono (Nat.zero_le n) _ (byteRows_lo _),l2⟩
   ·cases h
  ·cases h
 ·split at h
  ·cases h
   exact⟨by rw[AV.lo],l2⟩
  ·cases h
 ·cases h
theorem rawB_ok {op:Op} {KB:KB} (h:rawB G P op env σ n KB=true) (hs:SOk ρ σ) (l1:loE n env=true) (l2:loS n σ=true) (hK:GoesE n ρ KB K):RawOp G P op (env.ren ρ) (σ.ren ρ) K:=by
 unfold rawB at h
 split at h
 ·rename_i r σ' n' hr
  have hg:r.lo n'=true/\loS n' σ'=true->Goes1 n ρ r σ' n' K:=λlo ρ' k1 k2 k3=>hK ρ' r σ' n' k1 k2 k3 lo.1 lo.2 h
  unfold rawE at hr
  split at hr
  ·cases hr
   refine RAW_makeMap λb hb=>?_
   have:=hg ⟨by rw[AV.lo];simp[loV],loS_cons l2 rfl⟩ (upd ρ n (some b)) Agr.upd (Nat.le_succ n) (hs.new l2 (x:=.map []) (some b) (λb' hb'=>by cases hb';exact hb) (.inr rfl))
   rw[ren_cons_some (p:=(n,AObj.map [])) upd_self,Store.ren_agr Agr.upd l2]at this
   simpa only[AV.ren,renV,upd_self,Option.getD_some,AObj.ren,List.map_nil]using this
  ·rcases orE_ok hr with hr|hr
   ·exact(putE_ok kkInt hr hs (hg (putE_lo kkInt l1 l2 hr))).1
   ·exact(putE_ok kkStr hr hs (hg (putE_lo kkStr l1 l2 hr))).1
  ·rcases orE_ok hr with hr|hr
   ·exact(putE_ok kkInt hr hs (hg (putE_lo kkInt l1 l2 hr))).2
   ·exact(putE_ok kkStr hr hs (hg (putE_lo kkStr l1 l2 hr))).2
  ·rcases orE_ok hr with hr|hr
   ·exact lookE_ok kkInt hr hs (hg (lookE_lo kkInt l2 hr))
   ·exact lookE_ok kkStr hr hs (hg (lookE_lo kkStr l2 hr))
  ·exact convE_ok hr hs (hg (convE_lo l2 hr))
  ·exact ifnE_ok hr hs (hg (ifnE_lo l2 hr))
  ·exact bldE_ok hr hs (hg (bldE_lo l2 hr))
  ·cases hr
 ·cases h
theorem rawB_reach {op:Op} {KB:KB} (h:rawB G P op env σ n KB=true):∃r σ' n',KB r σ' n'=true:=by
 unfold rawB at h
 split at h
 ·exact⟨_,_,_,h⟩
 ·cases h
def Ext.of (f:Nat->List AV->Option AV) (hf:∀{k:Nat} {args:List AV} {r:AV},f k args=some r->∀ρ:Ren,Pure G P k (renL ρ args) r):Ext G P:=
 ⟨f,rawB G P,λh=>rawB_reach h,hf,λh hs l1 l2 hK=>rawB_ok h hs l1 l2 hK⟩
end
end Go.Av
