/-
  CONCRETE RUNS, 3: a function run on given arguments, by reckoning; what it comes to, it comes to in every memory.
-/
import Derived.Test.YtepngejmjdgccaaGreatDoorXK2
namespace Go.Av
open Go Go.RowKit
set_option linter.unusedSimpArgs false
set_option linter.unusedVariables false
abbrev KB:=AV->Store->Nat->Bool
def chunk (sz:Nat):Nat->List AV->List (List AV)
 |0,_=>[]
 |m+1,cs=>cs.take sz::chunk sz m (cs.drop sz)
def ownE (e:TypeId) (sz:Nat):AV->Option (Option Nat×List (List AV))
 | .nil=>some (none,[])
 | .own g e' sz' rows=>if e'=e/\sz'=sz then some (g,rows)else none
 |_=>none
def srcE (sz:Nat):AV->Option (List (List AV))
 | .nil=>some []
 | .lst sz' rows=>if sz'=sz then some rows else none
 | .own _ _ sz' rows=>if sz'=sz then some rows else none
 |_=>none
def tokB (σ:Store) (g:Option Nat) (e:TypeId) (k:Nat):Bool:=
 match g with
 |none=>true
 |some b=>match σ.get b with
  |some (.tok e' k')=>decide (e'=e/\k'=k)
  |_=>false
/-! ### states that are the same -/
def eqP:Value->Value->Bool
 | .pointer (some ⟨b,o,none⟩),.pointer (some ⟨b',o',none⟩)=>Nat.beq b b'&&Nat.beq o o'
 |_,_=>false
def eqPs:List Value->List Value->Bool
 |[],[]=>true
 |x::xs,y::ys=>eqP x y&&eqPs xs ys
 |_,_=>false
def eqV:Value->Value->Bool
 | .pointer (some ⟨b,o,none⟩),.pointer (some ⟨b',o',none⟩)=>Nat.beq b b'&&Nat.beq o o'
 | .pointer none,.pointer none=>true
 | .map (some b),.map (some b')=>Nat.beq b b'
 | .map none,.map none=>true
 | .nilFunc,.nilFunc=>true
 | .nilIface,.nilIface=>true
 | .func (.func k) fs cs,.func (.func k') fs' cs'=>Nat.beq k k'&&(eqPs fs.toList fs'.toList&&eqPs cs.toList cs'.toList)
 |_,_=>false
mutual
def eqA:AV->AV->Bool
 | .any,.any=>true
 | .bool a,.bool b=>decide (a=b)
 | .int k n,.int k' m=>decide (k=k'/\n=m)
 | .str a,.str b=>decide (a=b)
 | .nil,.nil=>true
 | .lst sz r,.lst sz' r'=>Nat.beq sz sz'&&eqR r r'
 | .own (some b) e sz r,.own (some b') e' sz' r'=>(Nat.beq b b'&&(Nat.beq e e'&&Nat.beq sz sz'))&&eqR r r'
 | .own none e sz r,.own none e' sz' r'=>(Nat.beq e e'&&Nat.beq sz sz')&&eqR r r'
 | .ref xs,.ref ys=>eqL xs ys
 | .agg xs,.agg ys=>eqL xs ys
 | .tup xs,.tup ys=>eqL xs ys
 | .sc u,.sc v=>eqV u v
 |_,_=>false
def eqL:List AV->List AV->Bool
 |[],[]=>true
 |x::xs,y::ys=>eqA x y&&eqL xs ys
 |_,_=>false
def eqR:List (List AV)->List (List AV)->Bool
 |[],[]=>true
 |x::xs,y::ys=>eqL x y&&eqR xs ys
 |_,_=>false
end
def eqKey:Value->Value->Bool
 | .int k n,.int k' m=>decide (k=k'/\n=m)
 | .string ⟨⟨a⟩⟩,.string ⟨⟨b⟩⟩=>decide (a=b)
 |_,_=>false
def eqMs:List (Value×AV)->List (Value×AV)->Bool
 |[],[]=>true
 |x::xs,y::ys=>(eqKey x.1 y.1&&eqA x.2 y.2)&&eqMs xs ys
 |_,_=>false
def eqO:AObj->AObj->Bool
 | .cells e cs,.cells e' cs'=>Nat.beq e e'&&eqL cs cs'
 | .tok e k,.tok e' k'=>Nat.beq e e'&&Nat.beq k k'
 | .map es,.map es'=>eqMs es es'
 |_,_=>false
def eqSt:List (Nat×AV)->List (Nat×AV)->Bool
 |[],[]=>true
 |x::xs,y::ys=>(Nat.beq x.1 y.1&&eqA x.2 y.2)&&eqSt xs ys
 |_,_=>false
def eqSo:Store->Store->Bool
 |[],[]=>true
 |x::xs,y::ys=>(Nat.beq x.1 y.1&&eqO x.2 y.2)&&eqSo xs ys
 |_,_=>false
def eqAll (e:Env) (s:Store) (n:Nat) (e':Env) (s':Store) (n':Nat):Bool:=Nat.beq n n'&&(eqSt e e'&&eqSo s s')
theorem nbeq {a b:Nat}:Nat.beq a b=true↔a=b:=⟨Nat.eq_of_beq_eq_true,λh=>by rw[h];exact Nat.beq_refl b⟩
theorem eqP_ok {u v:Value} (h:eqP u v=true):u=v:=by
 unfold eqP at h
 split at h
 ·simp only[Bool.and_eq_true,nbeq]at h
  obtain⟨rfl,rfl⟩:=h;rfl
 ·cases h
theorem eqPs_ok:∀{xs ys:List Value},eqPs xs ys=true->xs=ys
 |[],[],_=>rfl
 |x::xs,y::ys,h=>by
  simp only[eqPs,Bool.and_eq_true]at h
  rw[eqP_ok h.1,eqPs_ok h.2]
 |[],_::_,h=>by simp[eqPs]at h
 |_::_,[],h=>by simp[eqPs]at h
theorem eqV_ok {u v:Value} (h:eqV u v=true):u=v:=by
 unfold eqV at h
 split at h
 ·simp only[Bool.and_eq_true,nbeq]at h
  obtain⟨rfl,rfl⟩:=h;rfl
 ·rfl
 ·simp only[nbeq]at h
  subst h;rfl
 ·rfl
 ·rfl
 ·rfl
 ·simp only[Bool.and_eq_true,nbeq]at h
  obtain⟨rfl,h1,h2⟩:=h
  rw[Array.ext' (eqPs_ok h1),Array.ext' (eqPs_ok h2)]
 ·cases h
mutual
theorem eqA_ok:∀(x y:AV),eqA x y=true->x=y
 | .any,y,h=>by cases y<;>simp[eqA]at h ⊢
 | .bool a,y,h=>by cases y<;>simp[eqA]at h ⊢;exact h
 | .int k n,y,h=>by cases y<;>simp[eqA]at h ⊢;exact h
 | .str a,y,h=>by cases y<;>simp[eqA]at h ⊢;exact h
 | .nil,y,h=>by cases y<;>simp[eqA]at h ⊢
 | .lst sz r,y,h=>by
  cases y<;>simp[eqA,nbeq]at h ⊢
  exact⟨h.1,eqR_ok r _ h.2⟩
 | .own (some b) e sz r,y,h=>by
  cases y with
  |own g e' sz' r'=>
   cases g with
   |none=>simp[eqA]at h
   |some b'=>
    simp only[eqA,Bool.and_eq_true,nbeq]at h
    obtain⟨⟨rfl,rfl,rfl⟩,h⟩:=h
    rw[eqR_ok r r' h]
  |_=>simp[eqA]at h
 | .own none e sz r,y,h=>by
  cases y with
  |own g e' sz' r'=>
   cases g with
   |some b=>simp[eqA]at h
   |none=>
    simp only[eqA,Bool.and_eq_true,nbeq]at h
    obtain⟨⟨rfl,rfl⟩,h⟩:=h
    rw[eqR_ok r r' h]
  |_=>simp[eqA]at h
 | .ref xs,y,h=>by
  cases y<;>simp[eqA]at h ⊢
  exact eqL_ok xs _ h
 | .agg xs,y,h=>by
  cases y<;>simp[eqA]at h ⊢
  exact eqL_ok xs _ h
 | .tup xs,y,h=>by
  cases y<;>simp[eqA]at h ⊢
  exact eqL_ok xs _ h
 | .sc u,y,h=>by
  cases y<;>simp[eqA]at h ⊢
  exact eqV_ok h
theorem eqL_ok:∀(xs ys:List AV),eqL xs ys=true->xs=ys
 |[],[],_=>rfl
 |x::xs,y::ys,h=>by
  simp only[eqL,Bool.and_eq_true]at h
  rw[eqA_ok x y h.1,eqL_ok xs ys h.2]
 |[],_::_,h=>by simp[eqL]at h
 |_::_,[],h=>by simp[eqL]at h
theorem eqR_ok:∀(xs ys:List (List AV)),eqR xs ys=true->xs=ys
 |[],[],_=>rfl
 |x::xs,y::ys,h=>by
  simp only[eqR,Bool.and_eq_true]at h
  rw[eqL_ok x y h.1,eqR_ok xs ys h.2]
 |[],_::_,h=>by simp[eqR]at h
 |_::_,[],h=>by simp[eqR]at h
end
theorem eqKey_ok {u v:Value} (h:eqKey u v=true):u=v:=by
 unfold eqKey at h
 split at h
 ·simp only[decide_eq_true_eq]at h
  rw[h.1,h.2]
 ·simp only[decide_eq_true_eq]at h
  rw[h]
 ·cases h
theorem eqMs_ok:∀{xs ys:List (Value×AV)},eqMs xs ys=true->xs=ys
 |[],[],_=>rfl
 |(a,x)::xs,(b,y)::ys,h=>by
  simp only[eqMs,Bool.and_eq_true]at h
  rw[eqKey_ok h.1.1,eqA_ok x y h.1.2,eqMs_ok h.2]
 |[],_::_,h=>by simp[eqMs]at h
 |_::_,[],h=>by simp[eqMs]at h
theorem eqO_ok {x y:AObj} (h:eqO x y=true):x=y:=by
 unfold eqO at h
 split at h
 ·simp only[Bool.and_eq_true,nbeq]at h
  rw[h.1,eqL_ok _ _ h.2]
 ·simp only[Bool.and_eq_true,nbeq]at h
  rw[h.1,h.2]
 ·rw[eqMs_ok h]
 ·cases h
theorem eqSt_ok:∀{xs ys:List (Nat×AV)},eqSt xs ys=true->xs=ys
 |[],[],_=>rfl
 |(a,x)::xs,(b,y)::ys,h=>by
  simp only[eqSt,Bool.and_eq_true,nbeq]at h
  rw[h.1.1,eqA_ok x y h.1.2,eqSt_ok h.2]
 |[],_::_,h=>by simp[eqSt]at h
 |_::_,[],h=>by simp[eqSt]at h
theorem eqSo_ok:∀{xs ys:Store},eqSo xs ys=true->xs=ys
 |[],[],_=>rfl
 |(a,x)::xs,(b,y)::ys,h=>by
  simp only[eqSo,Bool.and_eq_true,nbeq]at h
  rw[h.1.1,eqO_ok h.1.2,eqSo_ok h.2]
 |[],_::_,h=>by simp[eqSo]at h
 |_::_,[],h=>by simp[eqSo]at h
theorem eqAll_ok {e e':Env} {s s':Store} {n n':Nat} (h:eqAll e s n e' s' n'=true):e=e'/\s=s'/\n=n':=by
 unfold eqAll at h
 simp only[Bool.and_eq_true,nbeq]at h
 exact⟨eqSt_ok h.2.1,eqSo_ok h.2.2,h.1⟩
def canon (ks:List Nat) (env:Env):Env:=ks.map λj=>(j,env.get j)
theorem canon_ren (ρ:Ren) (ks:List Nat) (env:Env):(canon ks env).ren ρ=canon ks (env.ren ρ):=by
 unfold canon Env.ren
 rw[List.map_map]
 exact List.map_congr_left λj _=>by
  have:=Env.ren_get (ρ:=ρ) env j
  unfold Env.ren at this
  simp[this]
theorem canon_lo {n:Nat} {ks:List Nat} {env:Env} (h:loE n env=true):loE n (canon ks env)=true:=List.all_eq_true.2 λp hp=>by
 obtain⟨j,_,rfl⟩:=List.mem_map.1 hp
 exact Env.get_lo h
theorem keep_get {ks:List Nat} {j:Nat} (hj:j∈ks):∀env:Env,(env.keep ks).get j=env.get j
 |[]=>rfl
 |(k,x)::e=>by
  have ih:=keep_get hj e
  simp only[Env.keep,List.filter_cons]at*
  by_cases hk:k=j
  ·subst hk
   have:ks.contains k=true:=by simpa using hj
   rw[if_pos this]
   simp[Env.get]
  ·split
   ·simp only[Env.get,if_neg hk];exact ih
   ·simp only[Env.get,if_neg hk];exact ih
theorem canon_le {ks:List Nat} (env:Env):EnvLe (env.keep ks) (canon ks env):=by
 have key:∀l:List Nat,(∀j∈l,j∈ks)->EnvLe (env.keep ks) (canon l env):=by
  intro l
  induction l with
  |nil=>intro _;exact trivial
  |cons j l ih=>
   intro h
   refine⟨?_,ih λk hk=>h k (by simp[hk])⟩
   rw[keep_get (h j (by simp))]
   exact AVle.rfl' _
 exact key ks λ_ h=>h
section
variable (G:Glob) (P:Program)
structure Ext where
 fn:Nat->List AV->Option AV
 raw:Op->Env->Store->Nat->KB->Bool
 rawReach:∀{op:Op} {env:Env} {σ:Store} {n:Nat} {KB:KB},raw op env σ n KB=true->∃r σ' n',KB r σ' n'=true
 fnOk:∀{k:Nat} {args:List AV} {r:AV},fn k args=some r->∀ρ:Ren,Pure G P k (renL ρ args) r
 rawOk:∀{op:Op} {env:Env} {σ:Store} {n:Nat} {KB:KB} {ρ:Ren} {K:AV->Store->Prop},raw op env σ n KB=true->SOk ρ σ->loE n env=true->loS n σ=true->
  (∀ρ' r σ' n',Agr n ρ ρ'->n<=n'->SOk ρ' σ'->r.lo n'=true->loS n' σ'=true->KB r σ' n'=true->K (r.ren ρ') (σ'.ren ρ'))->RawOp G P op (env.ren ρ) (σ.ren ρ) K
variable {G P}
variable (X:Ext G P) (call:Value->List AV->Store->Nat->KB->Bool)
def aopB (so:SOp) (env:Env) (σ:Store) (n:Nat) (K:KB):Bool:=
 match so with
 | .alloc e zero=>cheapL zero&&K (.sc (.pointer (some ⟨n,0,none⟩))) ((n,.cells e zero)::σ) (n+1)
 | .box e m x=>match (opdE G env x).bind AV.cells? with
  |some c=>decide (c.length=m)&&K (.sc (.pointer (some ⟨n,0,none⟩))) ((n,.cells e c)::σ) (n+1)
  |none=>false
 | .boxR m x=>match (opdE G env x).bind AV.cells? with
  |some c=>decide (c.length=m)&&K (.ref c) σ n
  |none=>false
 | .buildS e sz len zero parts=>match fillE G env zero (parts.map λp=>(p.1*sz,sz,p.2))with
  |some cs=>(cheapL zero&&decide (cs.length=len*sz))&&K (.own (some n) e sz (chunk sz len cs)) ((n,.tok e (len*sz))::σ) (n+1)
  |none=>false
 | .store m x y=>match opdE G env x,(opdE G env y).bind AV.cells? with
  |some (.sc (.pointer (some ⟨b,o,none⟩))),some c=>match σ.get b with
   |some (.cells e cs)=>(decide (c.length=m)&&decide (o+m<=cs.length))&&K undefAV (σ.set b (.cells e (splice cs o c))) n
   |_=>false
  |_,_=>false
 | .append e sz bytes x y=>match (opdE G env x).bind (ownE e sz),(opdE G env y).bind (srcE sz)with
  |some (g,rows),some ys=>(tokB σ g e (rows.length*sz)&&decide ((rows.length+ys.length)*bytes<=140737488355328))&&K (.own (some n) e sz (rows++ys)) ((n,.tok e ((rows++ys).length*sz))::σ.erase g) (n+1)
  |_,_=>false
 | .call f args=>match opdE G env f,opdsE G env args with
  |some (.sc v),some as=>call v as σ n K
  |_,_=>false
 | .invoke _ _ _=>false
 | .raw op=>X.raw op env σ n K
 |so=>match aqE G so env σ with
  |some r=>K r σ n
  |none=>false
def srB:List SOper->Env->Store->Nat->(Env->Store->Nat->Bool)->Bool
 |[],env,σ,n,K=>K env σ n
 |o::rest,env,σ,n,K=>match o.guard with
  |none=>aopB X call o.op env σ n λr σ' n'=>srB rest (env.put o.dst r) σ' n' K
  |some (j,want)=>match env.get j with
   | .bool b=>if b=want then aopB X call o.op (env.set j (.bool want)) σ n λr σ' n'=>srB rest ((env.set j (.bool want)).put o.dst r) σ' n' K
    else srB rest ((env.set j (.bool (!want))).put o.dst undefAV) σ n K
   | .tup []=>srB rest (env.put o.dst undefAV) σ n K
   |_=>false
def trB (ks:List Nat):DT->Env->Store->Nat->(Env->Store->Nat->Bool)->Bool
 | .done,env,σ,n,K=>K (canon ks env) σ n
 | .step o t,env,σ,n,K=>match o.guard with
  |none=>aopB X call o.op env σ n λr σ' n'=>trB ks t (env.put o.dst r) σ' n' K
  |some (j,want)=>match env.get j with
   | .bool b=>if b=want then aopB X call o.op (env.set j (.bool want)) σ n λr σ' n'=>trB ks t ((env.set j (.bool want)).put o.dst r) σ' n' K
    else trB ks t ((env.set j (.bool (!want))).put o.dst undefAV) σ n K
   | .tup []=>trB ks t (env.put o.dst undefAV) σ n K
   |_=>false
 | .both a b,env,σ,n,K=>trB ks a env σ n λe s m=>(trB ks b env σ n (eqAll e s m)||trB ks b env σ n K)&&K e s m
def qrB (G:Glob):List SOper->Env->Store->Option Env
 |[],env,_=>some env
 |o::rest,env,σ=>match o.guard with
  |none=>match aqE G o.op env σ with
   |some r=>qrB G rest (env.put o.dst r) σ
   |none=>none
  |some (j,want)=>match env.get j with
   | .bool b=>if b=want then
     match aqE G o.op (env.set j (.bool want)) σ with
     |some r=>qrB G rest ((env.set j (.bool want)).put o.dst r) σ
     |none=>none
    else qrB G rest ((env.set j (.bool (!want))).put o.dst undefAV) σ
   | .tup []=>qrB G rest (env.put o.dst undefAV) σ
   |_=>none
def loopB (body:Env->Store->Nat->(Exit->Env->Store->Nat->Bool)->Bool):Nat->Env->Store->Nat->(Exit->Env->Store->Nat->Bool)->Bool
 |0,_,_,_,_=>false
 |m+1,env,σ,n,K=>body env σ n λe env σ n=>match e with
  | .normal=>loopB body m env σ n K
  |e=>K e env σ n
def cx:SCode->Env->Store->Nat->(Exit->Env->Store->Nat->Bool)->Bool
 | .skip,env,σ,n,K=>K .normal env σ n
 | .region ops keep,env,σ,n,K=>srB X call ops env σ n λenv σ n=>K .normal (env.keep keep) σ n
 | .drawL ops keep,env,σ,n,K=>srB X call ops env σ n λenv σ n=>K .normal (env.keep keep) σ n
 | .drawT t keep,env,σ,n,K=>trB X call keep t env σ n λenv σ n=>K .normal env σ n
 | .draw ops keep,env,σ,n,K=>match qrB G ops env σ with
  |some env=>K .normal (env.keep keep) σ n
  |none=>false
 | .seq a b,env,σ,n,K=>cx a env σ n λe env σ n=>match e with
  | .normal=>cx b env σ n K
  |e=>K e env σ n
 | .cond c a b,env,σ,n,K=>match opdE G env c with
  |some (.bool true)=>cx a env σ n K
  |some (.bool false)=>cx b env σ n K
  |_=>false
 | .block id a,env,σ,n,K=>cx a env σ n λe env σ n=>match e with
  | .exit id'=>if id'=id then K .normal env σ n else K (.exit id') env σ n
  |e=>K e env σ n
 | .loop a,env,σ,n,K=>loopB (cx a) 1000000 env σ n K
 | .exit id,env,σ,n,K=>K (.exit id) env σ n
 | .ret,env,σ,n,K=>K .ret env σ n
 |_,_,_,_,_=>false
def retB:List (Nat×Option (Bool×Nat))->Env->Store->(List AV->Bool)->Bool
 |[],_,_,K=>K []
 |(t,none)::rs,env,σ,K=>retB rs env σ λxs=>K (env.get t::xs)
 |(t,some (agg,n))::rs,env,σ,K=>match loadXE σ agg n (env.get t)with
  |some x=>retB rs env σ λxs=>K (x::xs)
  |none=>false
def capOk:Value->Bool
 | .pointer (some ⟨_,_,none⟩)=>true
 |_=>false
end
def runB {G:Glob} {P:Program} (X:Ext G P):Nat->Value->List AV->Store->Nat->KB->Bool
 |0,_,_,_,_,_=>false
 |f+1,v,args,σ,n,K=>match v with
  | .func (.func k) first cap=>(first.toList.all capOk&&cap.toList.all capOk)&&
   match X.fn k (first.toList.map AV.ofValue++args++cap.toList.map AV.ofValue)with
   |some r=>r.lo 0&&K r σ n
   |none=>match fnAt P k []with
    |some (ts,s)=>cx X (runB X f) s (argEnv 0 (first.toList.map AV.ofValue++args++cap.toList.map AV.ofValue)) σ n λe env σ n=>match e with
     | .normal=>retB ts env σ λxs=>K (oneOrTup xs) σ n
     | .ret=>retB ts env σ λxs=>K (oneOrTup xs) σ n
     |_=>false
    |none=>false
  |_=>false
section
variable {G:Glob} {P:Program} {ρ:Ren} {X:Ext G P} {call:Value->List AV->Store->Nat->KB->Bool}
def GoesE (n:Nat) (ρ:Ren) (KB:KB) (K:AV->Store->Prop):Prop:=
 ∀ρ' r σ' n',Agr n ρ ρ'->n<=n'->SOk ρ' σ'->r.lo n'=true->loS n' σ'=true->KB r σ' n'=true->K (r.ren ρ') (σ'.ren ρ')
def CallOk (G:Glob) (P:Program) (call:Value->List AV->Store->Nat->KB->Bool):Prop:=
 ∀(v:Value) (args:List AV) (σ:Store) (n:Nat) (KB:KB) (ρ:Ren),call v args σ n KB=true->SOk ρ σ->loV n v=true->loL n args=true->loS n σ=true->
  VSpec G P (renV ρ v) (renL ρ args) (σ.ren ρ) λr σ'=>∃ρ' r0 σ0 n',Agr n ρ ρ'/\n<=n'/\SOk ρ' σ0/\r0.lo n'=true/\loS n' σ0=true/\KB r0 σ0 n'=true/\r=r0.ren ρ'/\σ'=σ0.ren ρ'
theorem opdsE_ok {env:Env}:∀{xs:List SOpd} {vs:List AV},opdsE G env xs=some vs->xs.map (·.eval G (env.ren ρ))=renL ρ vs
 |[],vs,h=>by cases h;rfl
 |x::xs,vs,h=>by
  simp only[opdsE]at h
  split at h
  ·rename_i hv hu
   cases h
   rw[List.map_cons,opdE_ok (ρ:=ρ) hv,opdsE_ok hu,renL]
  ·cases h
theorem chunk_ok (sz:Nat):∀(m:Nat) (cs:List AV),cs.length=m*sz->(chunk sz m cs).length=m/\(∀r∈chunk sz m cs,r.length=sz)/\(chunk sz m cs).flatten=cs
 |0,cs,h=>by
  have:cs=[]:=List.eq_nil_of_length_eq_zero (by simpa using h)
  subst this
  simp[chunk]
 |m+1,cs,h=>by
  have h1:sz<=cs.length:=by rw[h,Nat.add_mul];omega
  have h2:(cs.drop sz).length=m*sz:=by rw[List.length_drop,h,Nat.add_mul];omega
  obtain⟨e1,e2,e3⟩:=chunk_ok sz m _ h2
  refine⟨by simp[chunk,e1],?_,by simp[chunk,e3]⟩
  intro r hr
  rcases List.mem_cons.1 hr with rfl|hr
  ·rw[List.length_take];omega
  ·exact e2 r hr
theorem chunk_lo {n:Nat} (sz:Nat):∀(m:Nat) (cs:List AV),loL n cs=true->loR n (chunk sz m cs)=true
 |0,cs,_=>by rw[chunk,loR]
 |m+1,cs,h=>by
  rw[chunk,loR,loL_take h,chunk_lo sz m _ (loL_drop h)];rfl
theorem chunk_ren (sz:Nat):∀(m:Nat) (cs:List AV),renR ρ (chunk sz m cs)=chunk sz m (renL ρ cs)
 |0,cs=>by simp[chunk,renR]
 |m+1,cs=>by simp only[chunk,renR];rw[chunk_ren sz m,renL_take,renL_drop]
theorem aopB_ok (hc:CallOk G P call) {so:SOp} {env:Env} {σ:Store} {n:Nat} {KB:KB} {K:AV->Store->Prop} (hs:SOk ρ σ) (l1:loE n env=true) (l2:loS n σ=true) (h:aopB X call so env σ n KB=true) (hK:GoesE n ρ KB K):
  aop G P so (env.ren ρ) (σ.ren ρ) K:=by
 have O:=λ{x:SOpd} {v:AV} (h:opdE G env x=some v)=>opdE_lo l1 h
 have quiet:∀so',aopB X call so' env σ n KB=(match aqE G so' env σ with
   |some r=>KB r σ n
   |none=>false)->aopB X call so' env σ n KB=true->aq G so' (env.ren ρ) (σ.ren ρ) λr=>K r (σ.ren ρ):=by
  intro so' e h
  rw[e]at h
  split at h
  ·rename_i r hr
   exact aqE_ok hs hr (hK ρ r σ n (Agr.refl n ρ) (Nat.le_refl n) hs (aqE_lo l1 l2 hr) l2 h)
  ·cases h
 have fresh:∀(x:AObj) (g:Option Nat) (r:AV),x.lo (n+1)=true->r.lo (n+1)=true->(isTok x=true\/g.isSome=true)->(∀b,g=some b->b∉(σ.ren ρ).keys)->KB r ((n,x)::σ) (n+1)=true->
   K (r.ren (upd ρ n g)) (Store.ren (upd ρ n g) ((n,x)::σ)):=by
  intro x g r hx hr ht hg hkb
  exact hK _ r _ _ Agr.upd (Nat.le_succ n) (hs.new l2 g hg ht) hr (loS_cons l2 hx) hkb
 have here:AV.lo (n+1) (.sc (.pointer (some ⟨n,0,none⟩)))=true:=by rw[AV.lo];simp[loV]
 cases so with
 |alloc e zero=>
  simp only[aopB,Bool.and_eq_true]at h
  obtain⟨h1,h3⟩:=h
  have h1:=cheapL_ok h1
  intro b hb
  have:=fresh (.cells e zero) (some b) _ (loL_mono (Nat.zero_le _) _ h1) here (.inr rfl) (λb' hb'=>by cases hb';exact hb) h3
  rw[ren_cons_some (p:=(n,AObj.cells e zero)) upd_self,Store.ren_agr Agr.upd l2]at this
  simpa only[AV.ren,renV,upd_self,Option.getD_some,AObj.ren,renL_lo0 h1]using this
 |box e m x=>
  simp only[aopB]at h
  split at h
  ·rename_i c hc'
   obtain⟨v,hv,hc'⟩:=bind_ok hc'
   simp only[Bool.and_eq_true,decide_eq_true_eq]at h
   obtain⟨h1,h4⟩:=h
   have h2:=cells_lo hc' (O hv)
   simp only[aop,opdE_ok (ρ:=ρ) hv,withCells,cells_ren hc']
   refine⟨by rw[renL_len];exact h1,λb hb=>?_⟩
   have:=fresh (.cells e c) (some b) _ (loL_mono (Nat.le_succ n) _ h2) here (.inr rfl) (λb' hb'=>by cases hb';exact hb) h4
   rw[ren_cons_some (p:=(n,AObj.cells e c)) upd_self,Store.ren_agr Agr.upd l2]at this
   simpa only[AV.ren,renV,upd_self,Option.getD_some,AObj.ren,renL_agr Agr.upd c h2]using this
  ·cases h
 |boxR m x=>
  simp only[aopB]at h
  split at h
  ·rename_i c hc'
   obtain⟨v,hv,hc'⟩:=bind_ok hc'
   simp only[Bool.and_eq_true,decide_eq_true_eq]at h
   simp only[aop,opdE_ok (ρ:=ρ) hv,withCells,cells_ren hc']
   refine⟨by rw[renL_len];exact h.1,?_⟩
   have:=hK ρ (.ref c) σ n (Agr.refl n ρ) (Nat.le_refl n) hs (by rw[AV.lo];exact cells_lo hc' (O hv)) l2 h.2
   simpa only[AV.ren]using this
  ·cases h
 |buildS e sz len zero parts=>
  simp only[aopB]at h
  split at h
  ·rename_i cs hcs
   simp only[Bool.and_eq_true,decide_eq_true_eq]at h
   obtain⟨⟨h1,h2⟩,h5⟩:=h
   have h1:=cheapL_ok h1
   have h3:=fillE_lo l1 (loL_mono (Nat.zero_le n) _ h1) hcs
   have:=fillE_ok (ρ:=ρ) (K:=λcs=>newX (σ.ren ρ) λb=>∃rows:List (List AV),rows.length=len/\(∀r∈rows,r.length=sz)/\rows.flatten=cs/\K (.own (some b) e sz rows) ((b,.tok e (len*sz))::σ.ren ρ)) hcs (by
    intro b hb
    obtain⟨e1,e2,e3⟩:=chunk_ok sz len (renL ρ cs) (by rw[renL_len];exact h2)
    refine⟨chunk sz len (renL ρ cs),e1,e2,e3,?_⟩
    have:=fresh (.tok e (len*sz)) (some b) _ rfl (by rw[AV.lo,chunk_lo sz len cs (loL_mono (Nat.le_succ n) _ h3)];simp) (.inl rfl) (λb' hb'=>by cases hb';exact hb) h5
    rw[ren_cons_some (p:=(n,AObj.tok e (len*sz))) upd_self,Store.ren_agr Agr.upd l2]at this
    simpa only[AV.ren,Option.bind_some,upd_self,AObj.ren,chunk_ren,renL_agr Agr.upd cs h3]using this)
   rw[renL_lo0 h1]at this
   exact this
  ·cases h
 |store m x y=>
  simp only[aopB]at h
  split at h
  ·rename_i b o c hv hy
   obtain⟨u,hu,hc'⟩:=bind_ok hy
   split at h
   ·rename_i e cs hg
    simp only[Bool.and_eq_true,decide_eq_true_eq]at h
    obtain⟨b',hb,hg'⟩:=hs.cells hg
    simp only[aop,opdE_ok (ρ:=ρ) hv,opdE_ok (ρ:=ρ) hu,AV.ren,renV,hb,Option.getD_some,ptrX,hg',withRow,withCells,cells_ren hc']
    refine⟨by rw[renL_len];exact h.1.1,by rw[renL_len];exact h.1.2,?_⟩
    have hm:=Store.get_mem hg
    have hlo:=loS_get l2 hg
    have:=hK ρ undefAV _ n (Agr.refl n ρ) (Nat.le_refl n) (hs.setOk (y:=.cells e (splice cs o c)) hb hm) undef_lo (loS_set l2 hlo.1 (loL_splice hlo.2 (cells_lo hc' (O hu)))) h.2
    rw[SOk.set hb hs hm]at this
    simpa only[undefAV,AV.ren,renL,AObj.ren,renL_splice]using this
   ·cases h
  ·cases h
 |append e sz bytes x y=>
  simp only[aopB]at h
  split at h
  ·rename_i g rows ys hx hy
   obtain⟨u,hu,hx⟩:=bind_ok hx
   obtain⟨v,hv,hy⟩:=bind_ok hy
   simp only[Bool.and_eq_true,decide_eq_true_eq]at h
   obtain⟨⟨h1,h2⟩,h6⟩:=h
   have h3:loR n rows=true:=by
    have hl:=O hu
    unfold ownE at hx
    split at hx
    ·cases hx;rw[loR]
    ·split at hx
     ·cases hx
      cases g<;>(rw[AV.lo,Bool.and_eq_true]at hl;exact hl.2)
     ·cases hx
    ·cases hx
   have h4:loR n ys=true:=by
    have hl:=O hv
    unfold srcE at hy
    split at hy
    ·cases hy;rw[loR]
    ·split at hy
     ·cases hy;rwa [AV.lo]at hl
     ·cases hy
    ·rename_i b _ _ _
     split at hy
     ·cases hy
      cases b<;>(rw[AV.lo,Bool.and_eq_true]at hl;exact hl.2)
     ·cases hy
    ·cases hy
   simp only[aop,opdE_ok (ρ:=ρ) hu,opdE_ok (ρ:=ρ) hv]
   have hown:∀KK:Option Nat->List (List AV)->Prop,KK (g.bind ρ) (renR ρ rows)->ownX e sz (u.ren ρ) KK:=by
    intro KK hk
    unfold ownE at hx
    split at hx
    ·cases hx;simpa only[AV.ren,ownX,Option.bind_none,renR]using hk
    ·split at hx
     ·rename_i hh;cases hx;simp only[AV.ren,ownX];exact⟨hh.1,hh.2,hk⟩
     ·cases hx
    ·cases hx
   have hsrc:∀KK:List (List AV)->Prop,KK (renR ρ ys)->srcX sz (v.ren ρ) KK:=by
    intro KK hk
    unfold srcE at hy
    split at hy
    ·cases hy;simpa only[AV.ren,srcX,renR]using hk
    ·split at hy
     ·rename_i hh;cases hy;simp only[AV.ren,srcX];exact⟨hh,hk⟩
     ·cases hy
    ·split at hy
     ·rename_i hh;cases hy;simp only[AV.ren,srcX];exact⟨hh,hk⟩
     ·cases hy
    ·cases hy
   refine hown _ (hsrc _ ⟨?_,.inl (by rw[renR_len,renR_len];exact h2),?_⟩)
   ·intro b hb
    cases g with
    |none=>cases hb
    |some b0=>
     simp only[tokB]at h1
     split at h1
     ·rename_i e' k' hg
      simp only[decide_eq_true_eq]at h1
      obtain⟨rfl,rfl⟩:=h1
      rw[renR_len]
      exact hs.get hg hb
     ·cases h1
   ·intro g' hg1 hg2
    have hser:(σ.erase g).ren ρ=(σ.ren ρ).erase (g.bind ρ):=by
     cases g with
     |none=>rfl
     |some b0=>
      simp only[tokB]at h1
      split at h1
      ·rename_i hg;exact SOk.erase hs (Store.get_mem hg)
      ·cases h1
    have hse:SOk ρ (σ.erase g):=by
     cases g with
     |none=>exact hs
     |some b0=>exact hs.sub _ rfl
    have hle:loS n (σ.erase g)=true:=by
     cases g with
     |none=>exact l2
     |some b0=>exact List.all_eq_true.2 λp hp=>List.all_eq_true.1 l2 p ((List.mem_filter.1 hp).1)
    have:=hK (upd ρ n g') (.own (some n) e sz (rows++ys)) _ _ Agr.upd (Nat.le_succ n) (hse.new hle (x:=.tok e ((rows++ys).length*sz)) g' (λb hb=>by rw[hser];exact hg2 b hb) (.inl rfl)) (by rw[AV.lo,loR_mono (Nat.le_succ n) _ (loR_app h3 h4)];simp) (loS_cons hle rfl) h6
    refine⟨_,⟨λp hp=>hp,λhn=>hn⟩,?_⟩
    simp only[AV.ren,Option.bind_some,upd_self,renR_app,renR_agr Agr.upd rows h3,renR_agr Agr.upd ys h4]at this
    cases g' with
    |none=>
     rw[ren_cons_none (p:=(n,AObj.tok e ((rows++ys).length*sz))) upd_self,Store.ren_agr Agr.upd hle,hser]at this
     exact this
    |some b'=>
     rw[ren_cons_some (p:=(n,AObj.tok e ((rows++ys).length*sz))) upd_self,Store.ren_agr Agr.upd hle,hser]at this
     simp only[tokS,List.cons_append,List.nil_append,List.length_append,renR_len]
     simpa only[AObj.ren,List.length_append]using this
  ·cases h
 |call f args=>
  simp only[aopB]at h
  split at h
  ·rename_i v as hv ha
   have hvl:=O hv
   rw[AV.lo]at hvl
   simp only[aop,opdE_ok (ρ:=ρ) hv,AV.ren,scX,opdsE_ok (ρ:=ρ) ha]
   refine⟨_,σ.ren ρ,[],renL ρ as,.inl (hc _ _ _ _ _ _ h hs hvl (opdsE_lo l1 ha) l2),AVleA.rfl' _,λp hp=>by simpa using hp,λhn=>by simpa using hn,?_⟩
   rintro r σ' ⟨ρ',r0,σ0,n',g1,g2,g3,q1,q2,g4,rfl,rfl⟩ _
   rw[List.append_nil]
   exact hK ρ' r0 σ0 n' g1 g2 g3 q1 q2 g4
  ·cases h
 |invoke x name args=>cases h
 |raw op=>exact X.rawOk h hs l1 l2 hK
 |_=>exact quiet _ rfl h
def GoesS (n:Nat) (ρ:Ren) (KB:Env->Store->Nat->Bool) (K:Env->Store->Prop):Prop:=
 ∀ρ' env σ n',Agr n ρ ρ'->n<=n'->SOk ρ' σ->loE n' env=true->loS n' σ=true->KB env σ n'=true->K (env.ren ρ') (σ.ren ρ')
theorem undef_ren:undefAV.ren ρ=undefAV:=by simp[undefAV,AV.ren,renL]
theorem srB_ok (hc:CallOk G P call) {KB:Env->Store->Nat->Bool} {K:Env->Store->Prop}:∀{ops:List SOper} {env:Env} {σ:Store} {n:Nat} {ρ:Ren},SOk ρ σ->loE n env=true->loS n σ=true->srB X call ops env σ n KB=true->GoesS n ρ KB K->srun G P ops (env.ren ρ) (σ.ren ρ) K
 |[],env,σ,n,ρ,hs,l1,l2,h,hK=>hK ρ env σ n (Agr.refl n ρ) (Nat.le_refl n) hs l1 l2 h
 |o::rest,env,σ,n,ρ,hs,l1,l2,h,hK=>by
  have step:∀env1:Env,loE n env1=true->aopB X call o.op env1 σ n (λr σ' n'=>srB X call rest (env1.put o.dst r) σ' n' KB)=true->aop G P o.op (env1.ren ρ) (σ.ren ρ) λr σ'=>srun G P rest ((env1.ren ρ).put o.dst r) σ' K:=by
   intro env1 le h1
   refine aopB_ok hc hs le l2 h1 λρ' r σ' n' g1 g2 g3 q1 q2 g5=>?_
   have:=srB_ok hc g3 (Env.put_lo (loE_mono g2 le) q1) q2 g5 λρ'' e2 s2 n2 k1 k2 k3 j1 j2 k4=>hK ρ'' e2 s2 n2 (g1.trans g2 k1) (Nat.le_trans g2 k2) k3 j1 j2 k4
   rwa [Env.ren_put,Env.ren_agr g1 le]at this
  simp only[srB]at h
  simp only[srun]
  split at h
  ·rename_i hg
   simp only[hg]
   exact step env l1 h
  ·rename_i j want hg
   simp only[hg]
   rw[Env.ren_get]
   split at h
   ·rename_i b hb
    simp only[hb,AV.ren,gd]
    split at h
    ·rename_i hbw
     subst hbw
     refine⟨λ_=>?_,λe=>by cases b<;>cases e⟩
     have:=step _ (Env.set_lo l1 (by rw[AV.lo])) h
     simpa only[Env.ren_set,AV.ren]using this
    ·rename_i hbw
     refine⟨λe=>absurd e hbw,λ_=>?_⟩
     have:=srB_ok hc hs (Env.put_lo (Env.set_lo l1 (by rw[AV.lo])) undef_lo) l2 h hK
     simpa only[Env.ren_put,Env.ren_set,AV.ren,undef_ren]using this
   ·rename_i hb
    simp only[hb,AV.ren,renL,gd]
    have:=srB_ok hc hs (Env.put_lo l1 undef_lo) l2 h hK
    simpa only[Env.ren_put,undef_ren]using this
   ·cases h
def CallR (call:Value->List AV->Store->Nat->KB->Bool):Prop:=∀(v:Value) (args:List AV) (σ:Store) (n:Nat) (KB:KB),call v args σ n KB=true->∃r σ' n',KB r σ' n'=true
theorem aopB_reach (hc:CallR call) {so:SOp} {env:Env} {σ:Store} {n:Nat} {KB:KB} (h:aopB X call so env σ n KB=true):∃r σ' n',KB r σ' n'=true:=by
 have quiet:∀so',aopB X call so' env σ n KB=(match aqE G so' env σ with
   |some r=>KB r σ n
   |none=>false)->aopB X call so' env σ n KB=true->∃r σ' n',KB r σ' n'=true:=by
  intro so' e h
  rw[e]at h
  split at h
  ·exact⟨_,_,_,h⟩
  ·cases h
 cases so with
 |alloc e zero=>simp only[aopB,Bool.and_eq_true]at h;exact⟨_,_,_,h.2⟩
 |box e m x=>
  simp only[aopB]at h
  split at h
  ·rw[Bool.and_eq_true]at h;exact⟨_,_,_,h.2⟩
  ·cases h
 |boxR m x=>
  simp only[aopB]at h
  split at h
  ·rw[Bool.and_eq_true]at h;exact⟨_,_,_,h.2⟩
  ·cases h
 |buildS e sz len zero parts=>
  simp only[aopB]at h
  split at h
  ·rw[Bool.and_eq_true]at h;exact⟨_,_,_,h.2⟩
  ·cases h
 |store m x y=>
  simp only[aopB]at h
  split at h
  ·split at h
   ·rw[Bool.and_eq_true]at h;exact⟨_,_,_,h.2⟩
   ·cases h
  ·cases h
 |append e sz bytes x y=>
  simp only[aopB]at h
  split at h
  ·rw[Bool.and_eq_true]at h;exact⟨_,_,_,h.2⟩
  ·cases h
 |call f args=>
  simp only[aopB]at h
  split at h
  ·exact hc _ _ _ _ _ h
  ·cases h
 |invoke x name args=>cases h
 |raw op=>exact X.rawReach h
 |_=>exact quiet _ rfl h
theorem srB_reach (hc:CallR call) {KB:Env->Store->Nat->Bool}:∀{ops:List SOper} {env:Env} {σ:Store} {n:Nat},srB X call ops env σ n KB=true->∃e s m,KB e s m=true
 |[],env,σ,n,h=>⟨_,_,_,h⟩
 |o::rest,env,σ,n,h=>by
  simp only[srB]at h
  split at h
  ·obtain⟨_,_,_,h⟩:=aopB_reach hc h;exact srB_reach hc h
  ·split at h
   ·split at h
    ·obtain⟨_,_,_,h⟩:=aopB_reach hc h;exact srB_reach hc h
    ·exact srB_reach hc h
   ·exact srB_reach hc h
   ·cases h
theorem trB_reach (hc:CallR call) {ks:List Nat}:∀{t:DT} {KB:Env->Store->Nat->Bool} {env:Env} {σ:Store} {n:Nat},trB X call ks t env σ n KB=true->∃e s m,KB e s m=true
 | .done,KB,env,σ,n,h=>⟨_,_,_,h⟩
 | .step o rest,KB,env,σ,n,h=>by
  simp only[trB]at h
  split at h
  ·obtain⟨_,_,_,h⟩:=aopB_reach hc h;exact trB_reach hc h
  ·split at h
   ·split at h
    ·obtain⟨_,_,_,h⟩:=aopB_reach hc h;exact trB_reach hc h
    ·exact trB_reach hc h
   ·exact trB_reach hc h
   ·cases h
 | .both a b,KB,env,σ,n,h=>by
  simp only[trB]at h
  obtain⟨_,_,_,h⟩:=trB_reach hc (t:=a) h
  rw[Bool.and_eq_true]at h
  exact⟨_,_,_,h.2⟩
theorem loopB_reach {body:Env->Store->Nat->(Exit->Env->Store->Nat->Bool)->Bool} (hb:∀(env:Env) (σ:Store) (n:Nat) (K:Exit->Env->Store->Nat->Bool),body env σ n K=true->∃x e s m,K x e s m=true):
  ∀{f:Nat} {env:Env} {σ:Store} {n:Nat} {K:Exit->Env->Store->Nat->Bool},loopB body f env σ n K=true->∃x e s m,K x e s m=true
 |0,env,σ,n,K,h=>by cases h
 |f+1,env,σ,n,K,h=>by
  obtain⟨x,e,s,m,h⟩:=hb _ _ _ _ h
  cases x with
  |normal=>exact loopB_reach hb h
  |_=>exact⟨_,_,_,_,h⟩
theorem cx_reach (hc:CallR call):∀(s:SCode) (env:Env) (σ:Store) (n:Nat) (KB:Exit->Env->Store->Nat->Bool),cx X call s env σ n KB=true->∃x e s m,KB x e s m=true:=by
 intro s
 induction s with
 |skip=>intro env σ n KB h;exact⟨_,_,_,_,h⟩
 |region ops ks=>intro env σ n KB h;obtain⟨_,_,_,h⟩:=srB_reach hc h;exact⟨_,_,_,_,h⟩
 |drawL ops ks=>intro env σ n KB h;obtain⟨_,_,_,h⟩:=srB_reach hc h;exact⟨_,_,_,_,h⟩
 |drawT t ks=>intro env σ n KB h;obtain⟨_,_,_,h⟩:=trB_reach hc h;exact⟨_,_,_,_,h⟩
 |draw ops ks=>
  intro env σ n KB h
  simp only[cx]at h
  split at h
  ·exact⟨_,_,_,_,h⟩
  ·cases h
 |seq a b iha ihb=>
  intro env σ n KB h
  obtain⟨x,_,_,_,h⟩:=iha _ _ _ _ h
  cases x with
  |normal=>exact ihb _ _ _ _ h
  |_=>exact⟨_,_,_,_,h⟩
 |cond c a b iha ihb=>
  intro env σ n KB h
  simp only[cx]at h
  split at h
  ·exact iha _ _ _ _ h
  ·exact ihb _ _ _ _ h
  ·cases h
 |block id a iha=>
  intro env σ n KB h
  obtain⟨x,_,_,_,h⟩:=iha _ _ _ _ h
  cases x with
  |exit id'=>
   simp only at h
   split at h
   ·exact⟨_,_,_,_,h⟩
   ·exact⟨_,_,_,_,h⟩
  |_=>exact⟨_,_,_,_,h⟩
 |loop a iha=>intro env σ n KB h;exact loopB_reach iha h
 |exit id=>intro env σ n KB h;exact⟨_,_,_,_,h⟩
 |ret=>intro env σ n KB h;exact⟨_,_,_,_,h⟩
 |_=>intro env σ n KB h;cases h
theorem retB_reach {env:Env} {σ:Store}:∀{ts:List (Nat×Option (Bool×Nat))} {KB:List AV->Bool},retB ts env σ KB=true->∃xs,KB xs=true
 |[],KB,h=>⟨_,h⟩
 |(t,none)::rs,KB,h=>by obtain⟨_,h⟩:=retB_reach (ts:=rs) h;exact⟨_,h⟩
 |(t,some (agg,k))::rs,KB,h=>by
  simp only[retB]at h
  split at h
  ·obtain⟨_,h⟩:=retB_reach (ts:=rs) h;exact⟨_,h⟩
  ·cases h
theorem runB_reach (X:Ext G P):∀f:Nat,CallR (runB X f)
 |0=>λ_ _ _ _ _ h=>by cases h
 |f+1=>λv args σ n KB h=>by
  simp only[runB]at h
  split at h
  ·rw[Bool.and_eq_true]at h
   obtain⟨_,h⟩:=h
   split at h
   ·rw[Bool.and_eq_true]at h;exact⟨_,_,_,h.2⟩
   ·split at h
    ·obtain⟨x,_,_,_,h⟩:=cx_reach (runB_reach X f) _ _ _ _ _ h
     cases x with
     |normal=>obtain⟨_,h⟩:=retB_reach h;exact⟨_,_,_,h⟩
     |ret=>obtain⟨_,h⟩:=retB_reach h;exact⟨_,_,_,h⟩
     |_=>cases h
    ·cases h
  ·cases h
def GoesT (ks:List Nat) (n:Nat) (ρ:Ren) (KB:Env->Store->Nat->Bool) (K:Env->Store->Prop):Prop:=
 ∀ρ' env σ n',Agr n ρ ρ'->n<=n'->SOk ρ' σ->loE n' env=true->loS n' σ=true->KB (canon ks env) σ n'=true->K (env.ren ρ') (σ.ren ρ')
theorem trB_ok (hr:CallR call) (hc:CallOk G P call) {ks:List Nat} {K:Env->Store->Prop}:∀{t:DT} {KB:Env->Store->Nat->Bool} {env:Env} {σ:Store} {n:Nat} {ρ:Ren},SOk ρ σ->loE n env=true->loS n σ=true->trB X call ks t env σ n KB=true->GoesT ks n ρ KB K->trun G P t (env.ren ρ) (σ.ren ρ) K
 | .done,KB,env,σ,n,ρ,hs,l1,l2,h,hK=>by
  exact hK ρ env σ n (Agr.refl n ρ) (Nat.le_refl n) hs l1 l2 h
 | .both a b,KB,env,σ,n,ρ,hs,l1,l2,h,hK=>by
  simp only[trB]at h
  refine⟨trB_ok hr hc hs l1 l2 h λρ' e s m k1 k2 k3 j1 j2 k4=>?_,?_⟩
  ·rw[Bool.and_eq_true]at k4
   exact hK ρ' e s m k1 k2 k3 j1 j2 k4.2
  ·obtain⟨e,s,m,h⟩:=trB_reach hr (t:=a) h
   rw[Bool.and_eq_true,Bool.or_eq_true]at h
   rcases h.1 with h1|h1
   ·refine trB_ok hr hc hs l1 l2 h1 λρ' e' s' m' k1 k2 k3 j1 j2 k4=>?_
    obtain⟨rfl,rfl,rfl⟩:=eqAll_ok k4
    exact hK ρ' e' _ _ k1 k2 k3 j1 j2 h.2
   ·exact trB_ok hr hc hs l1 l2 h1 hK
 | .step o rest,KB,env,σ,n,ρ,hs,l1,l2,h,hK=>by
  have step:∀env1:Env,loE n env1=true->aopB X call o.op env1 σ n (λr σ' n'=>trB X call ks rest (env1.put o.dst r) σ' n' KB)=true->aop G P o.op (env1.ren ρ) (σ.ren ρ) λr σ'=>trun G P rest ((env1.ren ρ).put o.dst r) σ' K:=by
   intro env1 le h1
   refine aopB_ok hc hs le l2 h1 λρ' r σ' n' g1 g2 g3 q1 q2 g5=>?_
   have:=trB_ok hr hc g3 (Env.put_lo (loE_mono g2 le) q1) q2 g5 λρ'' e2 s2 n2 k1 k2 k3 j1 j2 k4=>hK ρ'' e2 s2 n2 (g1.trans g2 k1) (Nat.le_trans g2 k2) k3 j1 j2 k4
   rwa [Env.ren_put,Env.ren_agr g1 le]at this
  simp only[trB]at h
  simp only[trun]
  split at h
  ·rename_i hg
   simp only[hg]
   exact step env l1 h
  ·rename_i j want hg
   simp only[hg]
   rw[Env.ren_get]
   split at h
   ·rename_i b hb
    simp only[hb,AV.ren,gd]
    split at h
    ·rename_i hbw
     subst hbw
     refine⟨λ_=>?_,λe=>by cases b<;>cases e⟩
     have:=step _ (Env.set_lo l1 (by rw[AV.lo])) h
     simpa only[Env.ren_set,AV.ren]using this
    ·rename_i hbw
     refine⟨λe=>absurd e hbw,λ_=>?_⟩
     have:=trB_ok hr hc hs (Env.put_lo (Env.set_lo l1 (by rw[AV.lo])) undef_lo) l2 h hK
     simpa only[Env.ren_put,Env.ren_set,AV.ren,undef_ren]using this
   ·rename_i hb
    simp only[hb,AV.ren,renL,gd]
    have:=trB_ok hr hc hs (Env.put_lo l1 undef_lo) l2 h hK
    simpa only[Env.ren_put,undef_ren]using this
   ·cases h
theorem aqc_of {so:SOp} {env:Env} {σ:Store} {K:AV->Prop} {r:AV} {env0:Env} {σ0:Store} (he:aqE G so env0 σ0=some r) (h:aq G so env σ K):aqc G P so env σ K:=by
 cases so<;>first|exact h|cases he
theorem qrB_ok {σ:Store} (hs:SOk ρ σ) {K:Env->Prop}:∀{ops:List SOper} {env env':Env},qrB G ops env σ=some env'->K (env'.ren ρ)->qrun G P ops (env.ren ρ) (σ.ren ρ) K
 |[],env,env',h,hk=>by cases h;exact hk
 |o::rest,env,env',h,hk=>by
  simp only[qrB]at h
  simp only[qrun]
  split at h
  ·rename_i hg
   simp only[hg]
   split at h
   ·rename_i r hr
    refine aqc_of hr (aqE_ok hs hr ?_)
    have:=qrB_ok hs h hk
    rwa [Env.ren_put]at this
   ·cases h
  ·rename_i j want hg
   simp only[hg]
   rw[Env.ren_get]
   split at h
   ·rename_i b hb
    simp only[hb,AV.ren,gd]
    split at h
    ·rename_i hbw
     subst hbw
     refine⟨λ_=>?_,λe=>by cases b<;>cases e⟩
     split at h
     ·rename_i r hr
      have h1:=aqE_ok (K:=λr=>qrun G P rest (((env.set j (.bool b)).ren ρ).put o.dst r) (σ.ren ρ) K) hs hr (by
       have:=qrB_ok hs h hk
       rwa [Env.ren_put]at this)
      have:=aqc_of (P:=P) hr h1
      simpa only[Env.ren_set,AV.ren]using this
     ·cases h
    ·rename_i hbw
     refine⟨λe=>absurd e hbw,λ_=>?_⟩
     have:=qrB_ok hs h hk
     simpa only[Env.ren_put,Env.ren_set,AV.ren,undef_ren]using this
   ·rename_i hb
    simp only[hb,AV.ren,renL,gd]
    have:=qrB_ok hs h hk
    simpa only[Env.ren_put,undef_ren]using this
   ·cases h
theorem qrB_lo {σ:Store} {n:Nat} (l2:loS n σ=true):∀{ops:List SOper} {env env':Env},loE n env=true->qrB G ops env σ=some env'->loE n env'=true
 |[],env,env',l1,h=>by cases h;exact l1
 |o::rest,env,env',l1,h=>by
  simp only[qrB]at h
  split at h
  ·split at h
   ·rename_i r hr;exact qrB_lo l2 (Env.put_lo l1 (aqE_lo l1 l2 hr)) h
   ·cases h
  ·split at h
   ·split at h
    ·split at h
     ·rename_i r hr
      rename_i j want _ _ _ _ _ _
      have l3:loE n (env.set j (.bool want))=true:=Env.set_lo l1 (by rw[AV.lo])
      exact qrB_lo l2 (Env.put_lo l3 (aqE_lo l3 l2 hr)) h
     ·cases h
    ·exact qrB_lo l2 (Env.put_lo (Env.set_lo l1 (by rw[AV.lo])) undef_lo) h
   ·exact qrB_lo l2 (Env.put_lo l1 undef_lo) h
   ·cases h
def GoesX (n:Nat) (ρ:Ren) (KB:Exit->Env->Store->Nat->Bool) (Q:Exit->Env->Store->Prop):Prop:=
 ∀ρ' e env σ n',Agr n ρ ρ'->n<=n'->SOk ρ' σ->loE n' env=true->loS n' σ=true->KB e env σ n'=true->Q e (env.ren ρ') (σ.ren ρ')
theorem GoesX.on {n m:Nat} {ρ':Ren} {KB:Exit->Env->Store->Nat->Bool} {Q:Exit->Env->Store->Prop} (h:GoesX n ρ KB Q) (g1:Agr n ρ ρ') (g2:n<=m):GoesX m ρ' KB Q:=
 λρ'' e env σ n' k1 k2 k3 j1 j2 k4=>h ρ'' e env σ n' (g1.trans g2 k1) (Nat.le_trans g2 k2) k3 j1 j2 k4
theorem cx_ok (hr:CallR call) (hc:CallOk G P call):∀(s:SCode) {env:Env} {σ:Store} {n:Nat} {ρ:Ren} {KB:Exit->Env->Store->Nat->Bool} {Q:Exit->Env->Store->Prop},SOk ρ σ->loE n env=true->loS n σ=true->cx X call s env σ n KB=true->GoesX n ρ KB Q->swp G P s Q (env.ren ρ) (σ.ren ρ):=by
 intro s
 induction s with
 |skip=>intro env σ n ρ KB Q hs l1 l2 h hK;exact hK ρ _ _ _ _ (Agr.refl n ρ) (Nat.le_refl n) hs l1 l2 h
 |region ops ks=>
  intro env σ n ρ KB Q hs l1 l2 h hK
  exact srB_ok hc hs l1 l2 h λρ' e s n' k1 k2 k3 j1 j2 k4=>by rw[←Env.ren_keep];exact hK ρ' _ _ _ n' k1 k2 k3 (Env.keep_lo j1) j2 k4
 |drawL ops ks=>
  intro env σ n ρ KB Q hs l1 l2 h hK
  exact srB_ok hc hs l1 l2 h λρ' e s n' k1 k2 k3 j1 j2 k4=>by rw[←Env.ren_keep];exact hK ρ' _ _ _ n' k1 k2 k3 (Env.keep_lo j1) j2 k4
 |drawT t ks=>
  intro env σ n ρ KB Q hs l1 l2 h hK
  exact trB_ok hr hc hs l1 l2 h λρ' e s n' k1 k2 k3 j1 j2 k4=>by
   have:=hK ρ' _ _ _ n' k1 k2 k3 (canon_lo j1) j2 k4
   rw[canon_ren]at this
   exact⟨_,_,Weak.of (canon_le _) (SubN.refl _),this⟩
 |draw ops ks=>
  intro env σ n ρ KB Q hs l1 l2 h hK
  simp only[cx]at h
  split at h
  ·rename_i env' he
   refine qrB_ok hs he ?_
   rw[←Env.ren_keep]
   exact hK ρ _ _ _ n (Agr.refl n ρ) (Nat.le_refl n) hs (Env.keep_lo (qrB_lo l2 l1 he)) l2 h
  ·cases h
 |seq a b iha ihb=>
  intro env σ n ρ KB Q hs l1 l2 h hK
  refine iha hs l1 l2 h λρ' e env' σ' n' k1 k2 k3 j1 j2 k4=>?_
  cases e with
  |normal=>exact ihb k3 j1 j2 k4 (hK.on k1 k2)
  |_=>exact hK ρ' _ _ _ n' k1 k2 k3 j1 j2 k4
 |cond c a b iha ihb=>
  intro env σ n ρ KB Q hs l1 l2 h hK
  simp only[cx]at h
  split at h
  ·rename_i hv
   simp only[swp,opdE_ok (ρ:=ρ) hv,AV.ren]
   simpa using iha hs l1 l2 h hK
  ·rename_i hv
   simp only[swp,opdE_ok (ρ:=ρ) hv,AV.ren]
   simpa using ihb hs l1 l2 h hK
  ·cases h
 |block id a iha=>
  intro env σ n ρ KB Q hs l1 l2 h hK
  refine iha hs l1 l2 h λρ' e env' σ' n' k1 k2 k3 j1 j2 k4=>?_
  cases e with
  |exit id'=>
   simp only[onBlock]at k4 ⊢
   split at k4
   ·rename_i hid;rw[if_pos hid];exact hK ρ' _ _ _ n' k1 k2 k3 j1 j2 k4
   ·rename_i hid;rw[if_neg hid];exact hK ρ' _ _ _ n' k1 k2 k3 j1 j2 k4
  |_=>exact hK ρ' _ _ _ n' k1 k2 k3 j1 j2 k4
 |loop a iha=>
  intro env σ n ρ KB Q hs l1 l2 h hK
  refine⟨λm env1 σ1=>∃ρ' venv vσ n',env1=Env.ren ρ' venv/\σ1=Store.ren ρ' vσ/\Agr n ρ ρ'/\n<=n'/\SOk ρ' vσ/\loE n' venv=true/\loS n' vσ=true/\loopB (cx X call a) m venv vσ n' KB=true,1000000,_,_,⟨ρ,env,σ,n,rfl,rfl,Agr.refl n ρ,Nat.le_refl n,hs,l1,l2,h⟩,Weak.rfl' _ _,?_⟩
  rintro m _ _ ⟨ρ',venv,vσ,n',rfl,rfl,k1,k2,k3,j1,j2,k4⟩
  cases m with
  |zero=>cases k4
  |succ m=>
   refine iha k3 j1 j2 k4 λρ2 e env2 σ2 n2 q1 q2 q3 i1 i2 q4=>?_
   cases e with
   |normal=>exact⟨m,_,_,Nat.lt_succ_self m,⟨ρ2,env2,σ2,n2,rfl,rfl,k1.trans k2 q1,Nat.le_trans k2 q2,q3,i1,i2,q4⟩,Weak.rfl' _ _⟩
   |_=>exact hK ρ2 _ _ _ n2 (k1.trans k2 q1) (Nat.le_trans k2 q2) q3 i1 i2 q4
 |exit id=>intro env σ n ρ KB Q hs l1 l2 h hK;exact hK ρ _ _ _ _ (Agr.refl n ρ) (Nat.le_refl n) hs l1 l2 h
 |ret=>intro env σ n ρ KB Q hs l1 l2 h hK;exact hK ρ _ _ _ _ (Agr.refl n ρ) (Nat.le_refl n) hs l1 l2 h
 |_=>intro env σ n ρ KB Q hs l1 l2 h hK;cases h
theorem retB_ok {σ:Store} (hs:SOk ρ σ) {n:Nat} {env:Env} (l1:loE n env=true) (l2:loS n σ=true):∀{ts:List (Nat×Option (Bool×Nat))} {KB:List AV->Bool} {K:List AV->Prop},retB ts env σ KB=true->(∀xs,loL n xs=true->KB xs=true->K (renL ρ xs))->retX ts (env.ren ρ) (σ.ren ρ) K
 |[],KB,K,h,hK=>by have:=hK [] (by rw[loL]) h;rw[renL]at this;exact this
 |(t,none)::rs,KB,K,h,hK=>by
  refine retB_ok hs l1 l2 (ts:=rs) h λxs hl hx=>?_
  have:=hK _ (by rw[loL,Env.get_lo l1,hl];rfl) hx
  simpa only[renL,←Env.ren_get]using this
 |(t,some (agg,k))::rs,KB,K,h,hK=>by
  simp only[retB]at h
  split at h
  ·rename_i x hx
   simp only[retX,Env.ren_get]
   refine loadXE_ok hs hx (retB_ok hs l1 l2 (ts:=rs) h λxs hl hxs=>?_)
   have:=hK _ (by rw[loL,loadXE_lo l2 hx (Env.get_lo l1),hl];rfl) hxs
   simpa only[renL]using this
  ·cases h
theorem oneOrTup_lo {n:Nat}:∀{xs:List AV},loL n xs=true->(oneOrTup xs).lo n=true
 |[],_=>by simp[oneOrTup,AV.lo,loL]
 |[x],h=>by rw[loL,Bool.and_eq_true]at h;exact h.1
 |x::y::xs,h=>by
  simp only[oneOrTup]
  rw[AV.lo];exact h
theorem capOk_lo {n:Nat} {l:List Value} (h:l.all capOk=true) (hl:l.all (loP n)=true):loL n (l.map AV.ofValue)=true:=by
 induction l with
 |nil=>rw[List.map_nil,loL]
 |cons v l ih=>
  simp only[List.all_cons,Bool.and_eq_true]at h hl
  rw[List.map_cons,loL,ih h.2 hl.2,Bool.and_true]
  have h1:=h.1
  unfold capOk at h1
  split at h1
  ·have h2:=hl.1
   simpa[AV.ofValue,AV.ofOne,AV.lo,loV,loP]using h2
  ·cases h1
theorem oneOrTup_ren:∀xs:List AV,(oneOrTup xs).ren ρ=oneOrTup (renL ρ xs)
 |[]=>by simp[oneOrTup,AV.ren,renL]
 |[x]=>by simp[oneOrTup,renL]
 |x::y::xs=>by simp[oneOrTup,AV.ren,renL]
theorem capOk_ren {l:List Value} (h:l.all capOk=true):renL ρ (l.map AV.ofValue)=(l.map (renP ρ)).map AV.ofValue:=by
 induction l with
 |nil=>rfl
 |cons v l ih=>
  simp only[List.all_cons,Bool.and_eq_true]at h
  simp only[List.map_cons,renL,ih h.2]
  have h1:=h.1
  unfold capOk at h1
  split at h1
  ·simp[AV.ofValue,AV.ofOne,AV.ren,renV,renP]
  ·cases h1
theorem renL_app (xs ys:List AV):renL ρ (xs++ys)=renL ρ xs++renL ρ ys:=by rw[renL_map,renL_map,renL_map,List.map_append]
theorem FnSpec.frame0 {k:FuncId} {args:List AV} {r:AV} (σ:Store) (h:Pure G P k args r):FnSpec G P k args σ λx σ'=>x=r/\σ'=σ:=by
 refine⟨h.1,λτ w vs hS hA=>?_⟩
 refine(h.2 (σ++τ) w vs hS hA).mono ?_
 rintro e w' ⟨v,x,σ',he,⟨rfl,rfl⟩,hS',hE,hR⟩
 exact⟨v,x,σ,he,⟨rfl,rfl⟩,hS',by simpa using hE.frame (σr:=σ) (σ:=σ) (λp hp=>by simpa using hp),hR⟩
theorem runB_ok (X:Ext G P):∀f:Nat,CallOk G P (runB X f)
 |0=>λ_ _ _ _ _ _ h _ _ _ _=>by cases h
 |f+1=>λv args σ n KB ρ h hs lv la l2=>by
  simp only[runB]at h
  split at h
  ·rename_i k first cap
   simp only[Bool.and_eq_true]at h
   obtain⟨⟨hf,hcp⟩,h⟩:=h
   have hargs:renL ρ (first.toList.map AV.ofValue++args++cap.toList.map AV.ofValue)=(first.map (renP ρ)).toList.map AV.ofValue++renL ρ args++(cap.map (renP ρ)).toList.map AV.ofValue:=by
    rw[renL_app,renL_app,capOk_ren hf,capOk_ren hcp,Array.toList_map,Array.toList_map]
   refine⟨k,first.map (renP ρ),cap.map (renP ρ),rfl,?_⟩
   rw[←hargs]
   split at h
   ·rename_i r hr
    simp only[Bool.and_eq_true]at h
    refine(FnSpec.frame0 (σ.ren ρ) (X.fnOk hr ρ)).mono ?_
    rintro x σ' ⟨rfl,rfl⟩
    exact⟨ρ,x,σ,n,Agr.refl n ρ,Nat.le_refl n,hs,AV.lo_mono (Nat.zero_le n) _ h.1,l2,h.2,(AV.ren_lo0 h.1).symm,rfl⟩
   ·split at h
    ·rename_i ts s hk
     refine FnSpec.at hk ?_
     rw[←argEnv_ren]
     simp only[loV,Bool.and_eq_true]at lv
     refine cx_ok (runB_reach X f) (runB_ok X f) s hs (argEnv_lo (loL_app (loL_app (capOk_lo hf lv.1) la) (capOk_lo hcp lv.2))) l2 h λρ' e env σ' n' k1 k2 k3 j1 j2 k4=>?_
     have fin:retB ts env σ' (λxs=>KB (oneOrTup xs) σ' n')=true->retX ts (env.ren ρ') (σ'.ren ρ') λxs=>RET (oneOrTup xs) (σ'.ren ρ') λr σ'=>∃ρ' r0 σ0 n',Agr n ρ ρ'/\n<=n'/\SOk ρ' σ0/\r0.lo n'=true/\loS n' σ0=true/\KB r0 σ0 n'=true/\r=r0.ren ρ'/\σ'=σ0.ren ρ':=λhr=>
      retB_ok k3 j1 j2 hr λxs hl hx=>⟨_,_,AVle.rfl' _,SubN.refl _,ρ',oneOrTup xs,σ',n',k1,k2,k3,oneOrTup_lo hl,j2,hx,(oneOrTup_ren xs).symm,rfl⟩
     cases e with
     |normal=>exact fin k4
     |ret=>exact fin k4
     |_=>cases k4
    ·cases h
  ·cases h
def isB (b:Bool):AV->Bool
 | .bool c=>c==b
 |_=>false
theorem Pure.run (X:Ext G P) (f:Nat) {k:Nat} {b:Bool} (h:runB X f (.func (.func k) #[] #[]) [] [] 0 (λr _ _=>isB b r)=true):Pure G P k [] (.bool b):=by
 obtain⟨k',first,cap,e,hf⟩:=runB_ok X f _ _ _ _ _ (λ_=>none) h ⟨List.nodup_nil,List.nodup_nil,λp hp=>by cases hp⟩ (by simp[loV]) (by rw[loL]) rfl
 simp only[renV,Array.map_empty,Value.func.injEq,Fn.func.injEq]at e
 obtain⟨rfl,rfl,rfl⟩:=e
 have hf:FnSpec G P k [] [] _:=hf
 refine⟨hf.1,λτ w vs hS hA=>(hf.2 τ w vs hS hA).mono ?_⟩
 rintro e w' ⟨v,r,σ',he,⟨ρ',r0,σ0,n',g1,g2,g3,q1,q2,g4,rfl,rfl⟩,hS',hE,hR⟩
 unfold isB at g4
 split at g4
 ·rename_i c
  have:c=b:=by simpa using g4
  subst this
  have hsub:SubN ([]:Store) (σ0.ren ρ'):=SubN.nil _
  have e2:=Ev.of_sub (σ:=σ0.ren ρ') (σ':=[]) hsub.1 w'
  refine⟨v,_,[],he,⟨rfl,rfl⟩,hS'.subN hsub,hE.trans e2,?_⟩
  simp only[AV.ren,Rep]at hR ⊢
  exact hR
 ·cases g4
end
end Go.Av
