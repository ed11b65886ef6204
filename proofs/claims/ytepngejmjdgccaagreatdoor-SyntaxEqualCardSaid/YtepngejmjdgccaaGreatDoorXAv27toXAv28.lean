/-
  ABSTRACT VALUES, 27: append into cells of one's own, asked in closed facts.
-/
import Derived.Test.YtepngejmjdgccaaGreatDoorXAv24toXOpenG
namespace Go.Av
open Go Go.RowKit
set_option linter.unusedSimpArgs false
set_option linter.unusedVariables false
section
variable {G:Glob} {P:Program} {σ ρ:Store} {w:World} {env:Env} {K:AV->Store->Prop}
end
end Go.Av
namespace Go.Av
open Go Go.RowKit Go.MapKept
set_option linter.unusedSimpArgs false
set_option linter.unusedVariables false
section
variable {G:Glob} {P:Program} {env:Env} {σ:Store} {K:AV->Store->Prop} {κ:Type} [DecidableEq κ] {kT:TypeId} {val:κ->Value}
theorem find_int (k:Int):∀(l:List Int) (ents:List MapEntry) (i:Nat),ents.map (·.key)=l.map (λn=>Value.int .i64 n)->
  Instr.findNow (.int .i64) (.int .i64 k) ents i=some ((((l.zip ents).zipIdx i).find? λq=>decide (q.1.1=k)).map λq=>(q.2,q.1.2.val))
 |[],[],i,_=>by simp[Instr.findNow]
 |[],e::es,i,h=>by simp at h
 |b::l,[],i,h=>by simp at h
 |b::l,e::es,i,h=>by
  simp only[List.map_cons,List.cons.injEq]at h
  simp only[Instr.findNow,h.1,Instr.sameNow,if_true,List.zip_cons_cons,List.zipIdx_cons,List.find?_cons]
  by_cases hb:k=b
  ·subst hb;simp
  ·have h1:(k==b)=false:=by simpa using hb
   have h2:decide (b=k)=false:=by simp;exact λe=>hb e.symm
   simp only[h1,h2]
   exact find_int k l es (i+1) h.2
theorem mapK_int (hu:P.underlying kT=some (.int .i64)):MapK P kT (λn:Int=>Value.int .i64 n) where
 ck em k w:=run_checkKey hu (by simp[IsKey]) em 9999
 find k l ents w he:=run_findKey hu (find_int k l ents 0 he)
 stays k w:=run_keyThatStays (d:=.int .i64) (by simp[IsKey])
theorem RAW_insert (M:MapK P kT val) {xT eT:TypeId} {x ix y:Operand} {b:Nat} {l:List (κ×AV)} {k:κ} {yv:AV} (hx:(SOpd.of x).eval G env= .sc (.map (some b)))
  (hix:∀τ w v,Rep τ w ((SOpd.of ix).eval G env) v->v=val k) (hy:(SOpd.of y).eval G env=yv) (hu:P.underlying xT=some (.map kT eT)) (hg:σ.get b=some (.map (mrows val l)))
  (hk:K undefAV (σ.set b (.map (mrows val (mputs k yv l))))):RAW G P (.insert xT x ix y) env σ K ⟨⟩:=by
 intro ρ w a o ho hS hE
 have h:=RAW_mapUpdate (K:=K) M hx hix hy hu hg hk ρ w a {o with op:=.mapUpdate xT x ix y} rfl hS hE
 have e:execOp a.eval {o with op:=.mapUpdate xT x ix y}=execOp a.eval o:=by simp[execOp,ho]
 rwa [e]at h
end
end Go.Av
