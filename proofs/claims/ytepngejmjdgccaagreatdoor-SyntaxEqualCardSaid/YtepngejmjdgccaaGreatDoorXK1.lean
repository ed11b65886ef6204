/-
  CONCRETE RUNS, 1: values whose blocks are numbered as a run comes by them, and what they stand for.
-/
import Derived.Test.YtepngejmjdgccaaGreatDoorXAv17toXAv23
namespace Go.Av
open Go Go.RowKit
set_option linter.unusedSimpArgs false
set_option linter.unusedVariables false
abbrev Ren:=Nat->Option Nat
def renP (ρ:Ren):Value->Value
 | .pointer (some ⟨b,o,none⟩)=>.pointer (some ⟨(ρ b).getD 0,o,none⟩)
 |v=>v
def renV (ρ:Ren):Value->Value
 | .pointer (some ⟨b,o,none⟩)=>.pointer (some ⟨(ρ b).getD 0,o,none⟩)
 | .map (some b)=>.map (some ((ρ b).getD 0))
 | .func f fs cs=>.func f (fs.map (renP ρ)) (cs.map (renP ρ))
 |v=>v
def loP (n:Nat):Value->Bool
 | .pointer (some ⟨b,_,none⟩)=>decide (b<n)
 |_=>true
def loV (n:Nat):Value->Bool
 | .pointer (some ⟨b,_,none⟩)=>decide (b<n)
 | .map (some b)=>decide (b<n)
 | .func _ fs cs=>fs.toList.all (loP n)&&cs.toList.all (loP n)
 |_=>true
mutual
def AV.ren (ρ:Ren):AV->AV
 | .sc v=>.sc (renV ρ v)
 | .lst sz rows=>.lst sz (renR ρ rows)
 | .own b e sz rows=>.own (b.bind ρ) e sz (renR ρ rows)
 | .ref cs=>.ref (renL ρ cs)
 | .agg cs=>.agg (renL ρ cs)
 | .tup cs=>.tup (renL ρ cs)
 | .any=>.any
 | .bool b=>.bool b
 | .int k n=>.int k n
 | .str s=>.str s
 | .nil=>.nil
def renL (ρ:Ren):List AV->List AV
 |[]=>[]
 |x::xs=>AV.ren ρ x::renL ρ xs
def renR (ρ:Ren):List (List AV)->List (List AV)
 |[]=>[]
 |r::rs=>renL ρ r::renR ρ rs
end
mutual
def AV.lo (n:Nat):AV->Bool
 | .sc v=>loV n v
 | .lst _ rows=>loR n rows
 | .own b _ _ rows=>(match b with
  |none=>true
  |some b=>decide (b<n))&&loR n rows
 | .ref cs=>loL n cs
 | .agg cs=>loL n cs
 | .tup cs=>loL n cs
 | .any=>true
 | .bool _=>true
 | .int _ _=>true
 | .str _=>true
 | .nil=>true
def loL (n:Nat):List AV->Bool
 |[]=>true
 |x::xs=>AV.lo n x&&loL n xs
def loR (n:Nat):List (List AV)->Bool
 |[]=>true
 |r::rs=>loL n r&&loR n rs
end
def Agr (n:Nat) (ρ ρ':Ren):Prop:=∀b,b<n->ρ' b=ρ b
theorem Agr.refl (n:Nat) (ρ:Ren):Agr n ρ ρ:=λ_ _=>rfl
theorem Agr.trans {n m:Nat} {ρ ρ' ρ'':Ren} (h:Agr n ρ ρ') (hn:n<=m) (k:Agr m ρ' ρ''):Agr n ρ ρ'':=λb hb=>(k b (Nat.lt_of_lt_of_le hb hn)).trans (h b hb)
section
variable {n:Nat} {ρ ρ':Ren}
theorem renP_agr (h:Agr n ρ ρ'):∀v:Value,loP n v=true->renP ρ' v=renP ρ v:=by
 intro v hv
 unfold renP loP at*
 split
 ·simp only[decide_eq_true_eq]at hv;rw[h _ hv]
 ·rfl
theorem renPs_agr (h:Agr n ρ ρ') (fs:Array Value) (hf:fs.toList.all (loP n)=true):fs.map (renP ρ')=fs.map (renP ρ):=by
 apply Array.ext'
 rw[Array.toList_map,Array.toList_map]
 exact List.map_congr_left λv hv=>renP_agr h v (List.all_eq_true.1 hf v hv)
theorem renV_agr (h:Agr n ρ ρ'):∀v:Value,loV n v=true->renV ρ' v=renV ρ v:=by
 intro v hv
 unfold renV
 split
 ·simp only[loV,decide_eq_true_eq]at hv;rw[h _ hv]
 ·simp only[loV,decide_eq_true_eq]at hv;rw[h _ hv]
 ·simp only[loV,Bool.and_eq_true]at hv;rw[renPs_agr h _ hv.1,renPs_agr h _ hv.2]
 ·rfl
mutual
theorem AV.ren_agr (h:Agr n ρ ρ'):∀x:AV,x.lo n=true->x.ren ρ'=x.ren ρ
 | .sc v,hx=>by rw[AV.ren,AV.ren,renV_agr h v (by rwa [AV.lo]at hx)]
 | .lst sz rows,hx=>by rw[AV.ren,AV.ren,renR_agr h rows (by rwa [AV.lo]at hx)]
 | .own none e sz rows,hx=>by rw[AV.ren,AV.ren,renR_agr h rows (by rw[AV.lo]at hx;simpa using hx)];rfl
 | .own (some b) e sz rows,hx=>by
  rw[AV.lo]at hx
  simp only[Bool.and_eq_true,decide_eq_true_eq]at hx
  rw[AV.ren,AV.ren,renR_agr h rows hx.2,Option.bind_some,Option.bind_some,h b hx.1]
 | .ref cs,hx=>by rw[AV.ren,AV.ren,renL_agr h cs (by rwa [AV.lo]at hx)]
 | .agg cs,hx=>by rw[AV.ren,AV.ren,renL_agr h cs (by rwa [AV.lo]at hx)]
 | .tup cs,hx=>by rw[AV.ren,AV.ren,renL_agr h cs (by rwa [AV.lo]at hx)]
 | .any,_=>by rw[AV.ren,AV.ren]
 | .bool _,_=>by rw[AV.ren,AV.ren]
 | .int _ _,_=>by rw[AV.ren,AV.ren]
 | .str _,_=>by rw[AV.ren,AV.ren]
 | .nil,_=>by rw[AV.ren,AV.ren]
theorem renL_agr (h:Agr n ρ ρ'):∀xs:List AV,loL n xs=true->renL ρ' xs=renL ρ xs
 |[],_=>by rw[renL,renL]
 |x::xs,hx=>by
  rw[loL,Bool.and_eq_true]at hx
  rw[renL,renL,AV.ren_agr h x hx.1,renL_agr h xs hx.2]
theorem renR_agr (h:Agr n ρ ρ'):∀rs:List (List AV),loR n rs=true->renR ρ' rs=renR ρ rs
 |[],_=>by rw[renR,renR]
 |x::xs,hx=>by
  rw[loR,Bool.and_eq_true]at hx
  rw[renR,renR,renL_agr h x hx.1,renR_agr h xs hx.2]
end
theorem renP_id:renP some=id:=by
 funext v
 unfold renP
 split<;>rfl
theorem renV_id (v:Value):renV some v=v:=by
 unfold renV
 split
 ·rfl
 ·rfl
 ·rw[renP_id];simp
 ·rfl
mutual
theorem AV.ren_id:∀x:AV,x.ren some=x
 | .sc v=>by rw[AV.ren,renV_id]
 | .lst sz rows=>by rw[AV.ren,renR_id]
 | .own b e sz rows=>by rw[AV.ren,renR_id];simp
 | .ref cs=>by rw[AV.ren,renL_id]
 | .agg cs=>by rw[AV.ren,renL_id]
 | .tup cs=>by rw[AV.ren,renL_id]
 | .any=>by rw[AV.ren]
 | .bool _=>by rw[AV.ren]
 | .int _ _=>by rw[AV.ren]
 | .str _=>by rw[AV.ren]
 | .nil=>by rw[AV.ren]
theorem renL_id:∀xs:List AV,renL some xs=xs
 |[]=>by rw[renL]
 |x::xs=>by rw[renL,AV.ren_id,renL_id]
theorem renR_id:∀xs:List (List AV),renR some xs=xs
 |[]=>by rw[renR]
 |x::xs=>by rw[renR,renL_id,renR_id]
end
theorem Agr.zero:Agr 0 some ρ:=λb hb=>absurd hb (Nat.not_lt_zero b)
theorem AV.ren_lo0 {x:AV} (h:x.lo 0=true):x.ren ρ=x:=(AV.ren_agr Agr.zero x h).trans x.ren_id
theorem renL_lo0 {xs:List AV} (h:loL 0 xs=true):renL ρ xs=xs:=(renL_agr Agr.zero xs h).trans (renL_id xs)
theorem renL_map:∀xs:List AV,renL ρ xs=xs.map (AV.ren ρ)
 |[]=>by rw[renL];rfl
 |x::xs=>by rw[renL,renL_map xs];rfl
theorem renR_map:∀rs:List (List AV),renR ρ rs=rs.map (renL ρ)
 |[]=>by rw[renR];rfl
 |r::rs=>by rw[renR,renR_map rs];rfl
theorem renL_len (xs:List AV):(renL ρ xs).length=xs.length:=by rw[renL_map,List.length_map]
theorem renR_len (rs:List (List AV)):(renR ρ rs).length=rs.length:=by rw[renR_map,List.length_map]
theorem renL_take (k:Nat) (xs:List AV):renL ρ (xs.take k)=(renL ρ xs).take k:=by rw[renL_map,renL_map,List.map_take]
theorem renL_drop (k:Nat) (xs:List AV):renL ρ (xs.drop k)=(renL ρ xs).drop k:=by rw[renL_map,renL_map,List.map_drop]
theorem renR_take (k:Nat) (xs:List (List AV)):renR ρ (xs.take k)=(renR ρ xs).take k:=by rw[renR_map,renR_map,List.map_take]
theorem renR_drop (k:Nat) (xs:List (List AV)):renR ρ (xs.drop k)=(renR ρ xs).drop k:=by rw[renR_map,renR_map,List.map_drop]
theorem renR_app (xs ys:List (List AV)):renR ρ (xs++ys)=renR ρ xs++renR ρ ys:=by rw[renR_map,renR_map,renR_map,List.map_append]
theorem renL_getD (k:Nat) (xs:List AV):(renL ρ xs).getD k .any=(xs.getD k .any).ren ρ:=by
 rw[renL_map,List.getD_eq_getElem?_getD,List.getD_eq_getElem?_getD,List.getElem?_map]
 cases xs[k]? <;>simp[AV.ren]
theorem renR_getD (k:Nat) (xs:List (List AV)):(renR ρ xs).getD k []=renL ρ (xs.getD k []):=by
 rw[renR_map,List.getD_eq_getElem?_getD,List.getD_eq_getElem?_getD,List.getElem?_map]
 cases xs[k]? <;>simp[renL]
theorem renL_headD (xs:List AV):(renL ρ xs).headD .any=(xs.headD .any).ren ρ:=by
 cases xs<;>simp[renL,AV.ren]
theorem renL_splice:∀(l:List AV) (o:Nat) (c:List AV),renL ρ (splice l o c)=splice (renL ρ l) o (renL ρ c)
 |l,0,c=>by cases l<;>simp only[splice,renL_map,List.map_append,List.map_drop,List.length_map]
 |[],o+1,c=>by simp[splice,renL]
 |x::l,o+1,c=>by simp only[splice,renL];rw[renL_splice l o c]
theorem renV_one {v:Value}:(renV ρ v).oneCell'=v.oneCell':=by
 unfold renV
 split<;>rfl
theorem cells_ren {x:AV} {c:List AV} (h:AV.cells? x=some c):AV.cells? (x.ren ρ)=some (renL ρ c):=by
 cases x with
 |sc v=>
  simp only[AV.cells?]at h
  split at h
  ·cases h
   rename_i hv
   rw[AV.ren]
   simp only[AV.cells?,renV_one,hv,if_true,renL,AV.ren]
  ·cases h
 |any=>cases h
 |tup _=>cases h
 |agg cs=>cases h;rw[AV.ren];rfl
 |_=>cases h;rw[renL,renL];simp[AV.ren,AV.cells?]
end
/-! ### slots -/
def Env.ren (ρ:Ren) (env:Env):Env:=env.map λp=>(p.1,p.2.ren ρ)
def loE (n:Nat) (env:Env):Bool:=env.all λp=>p.2.lo n
section
variable {n:Nat} {ρ ρ':Ren}
theorem Env.ren_get:∀(env:Env) (j:Nat),(env.ren ρ).get j=(env.get j).ren ρ
 |[],j=>by simp[Env.ren,Env.get,AV.ren]
 |(k,x)::e,j=>by
  have ih:=Env.ren_get e j
  simp only[Env.ren,List.map_cons,Env.get]at*
  split
  ·rfl
  ·exact ih
theorem Env.ren_set:∀(env:Env) (j:Nat) (v:AV),(env.set j v).ren ρ=(env.ren ρ).set j (v.ren ρ)
 |[],j,v=>by simp[Env.ren,Env.set]
 |(k,x)::e,j,v=>by
  have ih:=Env.ren_set e j v
  simp only[Env.ren,List.map_cons,Env.set]at*
  split
  ·simp
  ·simp only[List.map_cons];rw[ih]
theorem Env.ren_put (env:Env) (d:Option Nat) (v:AV):(env.put d v).ren ρ=(env.ren ρ).put d (v.ren ρ):=by
 cases d with
 |none=>rfl
 |some d=>exact Env.ren_set env d v
theorem Env.ren_keep (ks:List Nat):∀env:Env,(env.keep ks).ren ρ=(env.ren ρ).keep ks
 |[]=>rfl
 |p::e=>by
  have ih:=Env.ren_keep ks e
  simp only[Env.ren,Env.keep,List.map_cons,List.filter_cons]at*
  split
  ·simp only[List.map_cons];rw[ih]
  ·exact ih
theorem Env.ren_agr (h:Agr n ρ ρ') {env:Env} (hl:loE n env=true):env.ren ρ'=env.ren ρ:=
 List.map_congr_left λp hp=>by rw[AV.ren_agr h p.2 (List.all_eq_true.1 hl p hp)]
theorem argEnv_ren:∀(i:Nat) (xs:List AV),(argEnv i xs).ren ρ=argEnv i (renL ρ xs)
 |_,[]=>by simp[argEnv,Env.ren,renL]
 |i,x::xs=>by
  have ih:=argEnv_ren (i+1) xs
  simp only[argEnv,Env.ren,renL,List.map_cons]at*
  rw[ih]
end
/-! ### the store -/
def AObj.ren (ρ:Ren):AObj->AObj
 | .cells e cs=>.cells e (renL ρ cs)
 | .tok e k=>.tok e k
 | .map es=>.map (es.map λp=>(p.1,p.2.ren ρ))
def AObj.lo (n:Nat):AObj->Bool
 | .cells _ cs=>loL n cs
 | .tok _ _=>true
 | .map es=>es.all λp=>p.2.lo n
def Store.ren (ρ:Ren) (σ:Store):Store:=σ.filterMap λp=>(ρ p.1).map λb=>(b,p.2.ren ρ)
def loS (n:Nat) (σ:Store):Bool:=σ.all λp=>decide (p.1<n)&&p.2.lo n
def isTok:AObj->Bool
 | .tok _ _=>true
 |_=>false
structure SOk (ρ:Ren) (σ:Store):Prop where
 keys:σ.keys.Nodup
 act:(σ.ren ρ).keys.Nodup
 live:∀p∈σ,isTok p.2=false->∃b,ρ p.1=some b
def upd (ρ:Ren) (n:Nat) (g:Option Nat):Ren:=λb=>if b=n then g else ρ b
theorem Agr.upd {n:Nat} {ρ:Ren} {g:Option Nat}:Agr n ρ (upd ρ n g):=λb hb=>if_neg (Nat.ne_of_lt hb)
theorem upd_self {n:Nat} {ρ:Ren} {g:Option Nat}:upd ρ n g n=g:=if_pos rfl
section
variable {n:Nat} {ρ ρ':Ren} {σ:Store}
theorem AObj.ren_agr (h:Agr n ρ ρ'):∀x:AObj,x.lo n=true->x.ren ρ'=x.ren ρ
 | .cells e cs,hx=>by simp only[AObj.ren];rw[renL_agr h cs hx]
 | .tok _ _,_=>rfl
 | .map es,hx=>by
  simp only[AObj.ren]
  refine congrArg AObj.map (List.map_congr_left λp hp=>?_)
  rw[AV.ren_agr h p.2 (List.all_eq_true.1 hx p hp)]
theorem Store.ren_agr (h:Agr n ρ ρ') (hl:loS n σ=true):σ.ren ρ'=σ.ren ρ:=by
 unfold Store.ren
 induction σ with
 |nil=>rfl
 |cons p s ih=>
  simp only[loS,List.all_cons,Bool.and_eq_true,decide_eq_true_eq]at hl
  simp only[List.filterMap_cons]
  rw[h p.1 hl.1.1,AObj.ren_agr h p.2 hl.1.2,ih hl.2]
theorem Store.ren_mem {b b':Nat} {x:AObj} (hm:(b,x)∈σ) (hb:ρ b=some b'):(b',x.ren ρ)∈σ.ren ρ:=
 List.mem_filterMap.2 ⟨_,hm,by simp[hb]⟩
theorem Store.get_of_mem:∀{σ:Store} {b:Nat} {x:AObj},σ.keys.Nodup->(b,x)∈σ->σ.get b=some x
 |[],_,_,_,hm=>by cases hm
 |(k,y)::s,b,x,hn,hm=>by
  simp only[Store.keys,List.map_cons,List.nodup_cons]at hn
  simp only[Store.get]
  rcases List.mem_cons.1 hm with e|hm
  ·cases e;rw[if_pos rfl]
  ·rw[if_neg (λe:k=b=>hn.1 (by rw[e];exact List.mem_map.2 ⟨_,hm,rfl⟩))]
   exact Store.get_of_mem hn.2 hm
theorem SOk.get (h:SOk ρ σ) {b b':Nat} {x:AObj} (hg:σ.get b=some x) (hb:ρ b=some b'):(σ.ren ρ).get b'=some (x.ren ρ):=
 Store.get_of_mem h.act (Store.ren_mem (Store.get_mem hg) hb)
theorem SOk.cells (h:SOk ρ σ) {b:Nat} {e:TypeId} {cs:List AV} (hg:σ.get b=some (.cells e cs)):∃b',ρ b=some b'/\(σ.ren ρ).get b'=some (.cells e (renL ρ cs)):=by
 obtain⟨b',hb⟩:=h.live _ (Store.get_mem hg) rfl
 exact⟨b',hb,h.get hg hb⟩
theorem SOk.tail {p:Nat×AObj} (h:SOk ρ (p::σ)):SOk ρ σ where
 keys:=by have:=h.keys;simp only[Store.keys,List.map_cons,List.nodup_cons]at this;exact this.2
 act:=by
  have:=h.act
  simp only[Store.ren,List.filterMap_cons]at this
  cases hr:ρ p.1 with
  |none=>rw[hr]at this;exact this
  |some b=>rw[hr]at this;simp only[Option.map_some,Store.keys,List.map_cons,List.nodup_cons]at this;exact this.2
 live:=λq hq=>h.live q (List.mem_cons_of_mem _ hq)
theorem ren_cons_some {p:Nat×AObj} {b:Nat} (hb:ρ p.1=some b):Store.ren ρ (p::σ)=(b,p.2.ren ρ)::σ.ren ρ:=by simp[Store.ren,hb]
theorem ren_cons_none {p:Nat×AObj} (hb:ρ p.1=none):Store.ren ρ (p::σ)=σ.ren ρ:=by simp[Store.ren,hb]
theorem SOk.head {p:Nat×AObj} (h:SOk ρ (p::σ)) {b:Nat} (hb:ρ p.1=some b) {k k':Nat} {x:AObj} (hk:(k,x)∈σ) (hk':ρ k=some k'):k'≠b:=by
 have:=h.act
 rw[ren_cons_some hb]at this
 simp only[Store.keys,List.map_cons,List.nodup_cons]at this
 exact λe=>this.1 (e ▸ List.mem_map.2 ⟨_,Store.ren_mem hk hk',rfl⟩)
theorem SOk.set {x y:AObj} {b b':Nat} (hb:ρ b=some b'):∀{σ:Store},SOk ρ σ->(b,x)∈σ->(σ.set b y).ren ρ=(σ.ren ρ).set b' (y.ren ρ)
 |[],_,hm=>by cases hm
 |(k,z)::s,h,hm=>by
  by_cases hk:k=b
  ·subst hk
   simp only[Store.set,if_true]
   rw[ren_cons_some (p:=(k,y)) hb,ren_cons_some (p:=(k,z)) hb]
   simp[Store.set]
  ·simp only[Store.set,if_neg hk]
   have hm':(b,x)∈s:=by
    rcases List.mem_cons.1 hm with e|hm
    ·cases e;exact absurd rfl hk
    ·exact hm
   have ih:=SOk.set (y:=y) hb h.tail hm'
   cases hr:ρ k with
   |none=>rw[ren_cons_none (p:=(k,z)) hr,ren_cons_none (p:=(k,z)) hr,ih]
   |some k'=>
    rw[ren_cons_some (p:=(k,z)) hr,ren_cons_some (p:=(k,z)) hr,ih]
    have:=h.head (p:=(k,z)) hr hm' hb
    simp only[Store.set,if_neg (Ne.symm this)]
theorem keys_set (y:AObj) (b:Nat):∀σ:Store,(σ.set b y).keys=σ.keys
 |[]=>rfl
 |(k,z)::s=>by
  have ih:=keys_set y b s
  simp only[Store.set]
  split
  ·simp[Store.keys]
  ·simp only[Store.keys,List.map_cons]at*;rw[ih]
theorem mem_set {y:AObj} {b:Nat}:∀{σ:Store} {p:Nat×AObj},p∈σ.set b y->p∈σ\/p=(b,y)
 |[],p,h=>by cases h
 |(k,z)::s,p,h=>by
  simp only[Store.set]at h
  split at h
  ·rename_i hk
   subst hk
   rcases List.mem_cons.1 h with e|h
   ·exact .inr e
   ·exact .inl (List.mem_cons_of_mem _ h)
  ·rcases List.mem_cons.1 h with e|h
   ·exact .inl (e ▸ List.mem_cons_self ..)
   ·rcases mem_set h with h|h
    ·exact .inl (List.mem_cons_of_mem _ h)
    ·exact .inr h
theorem SOk.setOk (h:SOk ρ σ) {x y:AObj} {b b':Nat} (hb:ρ b=some b') (hm:(b,x)∈σ):SOk ρ (σ.set b y) where
 keys:=by rw[keys_set];exact h.keys
 act:=by rw[SOk.set hb h hm,keys_set];exact h.act
 live:=λp hp ht=>by
  rcases mem_set hp with hp|rfl
  ·exact h.live p hp ht
  ·exact⟨b',hb⟩
theorem SOk.erase {x:AObj} {b:Nat}:∀{σ:Store},SOk ρ σ->(b,x)∈σ->(σ.erase (.some b)).ren ρ=(σ.ren ρ).erase (ρ b)
 |[],_,hm=>by cases hm
 |(k,z)::s,h,hm=>by
  have e1:∀{τ:Store},b∉τ.keys->τ.filter (λp=>decide (p.1≠b))=τ:=λ{τ} hn=>
   List.filter_eq_self.2 λp hp=>by simp;exact λe=>hn (e ▸ List.mem_map.2 ⟨_,hp,rfl⟩)
  by_cases hk:k=b
  ·subst hk
   have hn:k∉Store.keys s:=by have:=h.keys;simp only[Store.keys,List.map_cons,List.nodup_cons]at this;exact this.1
   have e2:Store.erase ((k,z)::s) (.some k)=s:=by simp only[Store.erase,List.filter_cons];simp;exact λa x hx e=>hn (e ▸ List.mem_map.2 ⟨_,hx,rfl⟩)
   rw[e2]
   cases hr:ρ k with
   |none=>rw[ren_cons_none (p:=(k,z)) hr];rfl
   |some k'=>
    rw[ren_cons_some (p:=(k,z)) hr]
    have hn':k'∉(Store.ren ρ s).keys:=by
     have:=h.act
     rw[ren_cons_some (p:=(k,z)) hr]at this
     simp only[Store.keys,List.map_cons,List.nodup_cons]at this
     exact this.1
    simp only[Store.erase,List.filter_cons]
    simp
    exact(List.filter_eq_self.2 λp hp=>by simp;exact λe=>hn' (e ▸ List.mem_map.2 ⟨_,hp,rfl⟩)).symm
  ·have hm':(b,x)∈s:=by
    rcases List.mem_cons.1 hm with e|hm
    ·cases e;exact absurd rfl hk
    ·exact hm
   have ih:=SOk.erase h.tail hm'
   have e2:Store.erase ((k,z)::s) (.some b)=(k,z)::Store.erase s (.some b):=by simp[Store.erase,List.filter_cons,hk]
   rw[e2]
   cases hr:ρ k with
   |none=>rw[ren_cons_none (p:=(k,z)) hr,ren_cons_none (p:=(k,z)) hr,ih]
   |some k'=>
    rw[ren_cons_some (p:=(k,z)) hr,ren_cons_some (p:=(k,z)) hr,ih]
    cases hb:ρ b with
    |none=>rfl
    |some b'=>
     have:=h.head (p:=(k,z)) hr hm' hb
     simp[Store.erase,List.filter_cons,Ne.symm this]
theorem SOk.sub {τ:Store} (h:SOk ρ σ) (f:Nat×AObj->Bool) (ht:τ=σ.filter f):SOk ρ τ:=by
 subst ht
 have hs:(σ.filter f).Sublist σ:=List.filter_sublist
 exact⟨h.keys.sublist (hs.map _),h.act.sublist ((hs.filterMap _).map _),λp hp=>h.live p ((List.mem_filter.1 hp).1)⟩
theorem SOk.new (h:SOk ρ σ) (hl:loS n σ=true) {x:AObj} (g:Option Nat) (hg:∀b,g= .some b->b∉(σ.ren ρ).keys) (hx:isTok x=true\/g.isSome=true):SOk (upd ρ n g) ((n,x)::σ):=by
 have er:=Store.ren_agr (Agr.upd (ρ:=ρ) (g:=g)) hl
 have hlt:∀p∈σ,p.1<n:=λp hp=>by
  have:=List.all_eq_true.1 hl p hp
  simp only[Bool.and_eq_true,decide_eq_true_eq]at this
  exact this.1
 refine⟨?_,?_,?_⟩
 ·simp only[Store.keys,List.map_cons,List.nodup_cons]
  refine⟨λhm=>?_,h.keys⟩
  obtain⟨p,hp,e⟩:=List.mem_map.1 hm
  exact absurd (hlt p hp) (by rw[e];exact Nat.lt_irrefl _)
 ·cases g with
  |none=>rw[ren_cons_none (p:=(n,x)) upd_self,er];exact h.act
  |some b=>
   rw[ren_cons_some (p:=(n,x)) upd_self,er]
   simp only[Store.keys,List.map_cons,List.nodup_cons]
   exact⟨hg b rfl,h.act⟩
 ·intro p hp ht
  rcases List.mem_cons.1 hp with rfl|hp
  ·rcases hx with hx|hx
   ·rw[hx]at ht;cases ht
   ·obtain⟨b,hb⟩:=Option.isSome_iff_exists.1 hx
    exact⟨b,upd_self.trans hb⟩
  ·obtain⟨b,hb⟩:=h.live p hp ht
   exact⟨b,(Agr.upd p.1 (hlt p hp)).trans hb⟩
end
end Go.Av
