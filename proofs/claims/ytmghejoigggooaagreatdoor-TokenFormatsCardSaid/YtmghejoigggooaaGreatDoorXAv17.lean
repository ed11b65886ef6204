/-
  ABSTRACT VALUES, 17: which slots are still read; a function's code by its number.
-/
import Derived.Test.YtmghejoigggooaaGreatDoorXAv16
namespace Go.Av
open Go Go.RowKit

/-! ### slots still read -/

def insN (n : Nat) : List Nat → List Nat
  | [] => [n]
  | m :: l => if n < m then n :: m :: l else if n == m then m :: l else m :: insN n l
def uniN (xs ys : List Nat) : List Nat := xs.foldr insN ys
def delN (d : Option Nat) (l : List Nat) : List Nat := match d with
  | none => l
  | some d => l.filter fun m => !(m == d)

def opdR : Operand → List Nat
  | .tmp t => [t]
  | _ => []
def opdsR (xs : List Operand) : List Nat := xs.flatMap opdR
def opdO : Option Operand → List Nat
  | none => []
  | some x => opdR x

/-- The slots that an operation reads. -/
def opR (op : Op) : List Nat := opdsR op.operands.toList

def opersR (ops : Array Oper) : List Oper → List Nat → List Nat
  | [], l => l
  | o :: rest, l => uniN (opR o.op ++ (match o.guard with
    | none => []
    | some (j, _) => (((ops[j]?).bind (·.dst)).map fun d => [d]).getD [])) (delN o.dst (opersR ops rest l))

def exitR (es : List (Nat × List Nat)) (id : Nat) : List Nat := ((es.find? fun p => p.1 == id).map (·.2)).getD []

/-- What is read ahead of code, and what each region must keep. -/
def liveC (ret : List Nat) : Code → List (Nat × List Nat) → List Nat → List Nat × List (Nat × List Nat)
  | .skip, _, l => (l, [])
  | .region id ops _, _, l => (opersR ops ops.toList l, [(id, l)])
  | .seq a b, es, l =>
    let rb := liveC ret b es l
    let ra := liveC ret a es rb.1
    (ra.1, ra.2 ++ rb.2)
  | .cond c a b, es, l =>
    let ra := liveC ret a es l
    let rb := liveC ret b es l
    (uniN (opdR c) (uniN ra.1 rb.1), ra.2 ++ rb.2)
  | .block id a, es, l =>
    let r := liveC ret a ((id, l) :: es) l
    (r.1, (id + 1000000, l) :: r.2)
  | .loop a, es, _ =>
    let r := liveC ret a es []
    liveC ret a es r.1
  | .exit id, es, _ => (exitR es id, [])
  | .ret, _, _ => (ret, [])
  | _, _, l => (l, [])

def keepOf (g : List Nat) (ks : List (Nat × List Nat)) (id : Nat) : List Nat × Bool := (exitR ks id, g.contains id)

/-- A function's code and the slots that it hands back ('g': the regions behind which the proof may forget). -/
def fnCode (P : Program) (g : List Nat) (fn : Func) : Option (List (Nat × Option (Bool × Nat)) × SCode) :=
  if fn.name == "runtime.NumGoroutine" then none else
  match fn.body, resSlots P fn.results.toList with
  | some c, some ts => (trans P fn.ntmps (keepOf g (liveC (ts.foldr (fun p l => insN p.1 l) []) c [] (ts.foldr (fun p l => insN p.1 l) [])).2) c).map (ts, ·)
  | _, _ => none

def fnAt (P : Program) (k : Nat) (g : List Nat) : Option (List (Nat × Option (Bool × Nat)) × SCode) := (P.funcs[k]?).bind (fnCode P g)

theorem FnSpec.at {G : Glob} {P : Program} {k : Nat} {g : List Nat} {ts : List (Nat × Option (Bool × Nat))} {s : SCode} {args : List AV} {σ : Store} {R : AV → Store → Prop} (hk : fnAt P k g = some (ts, s))
    (h : swp G P s (retQ ts R) (argEnv 0 args) σ) : FnSpec G P k args σ R := by
  unfold fnAt at hk
  cases hf : P.funcs[k]? with
  | none => rw [hf] at hk; cases hk
  | some fn =>
    rw [hf] at hk
    have hk : fnCode P g fn = some (ts, s) := hk
    unfold fnCode at hk
    split at hk
    · cases hk
    · rename_i hn
      split at hk
      · rename_i c ts' hb hr
        obtain ⟨s', hs, he⟩ := Option.map_eq_some_iff.1 hk
        cases he
        exact FnSpec.intro hf (by simpa using hn) hb hr hs h
      · cases hk

end Go.Av
