/-
  ABSTRACT VALUES, 6: from the loaded code into the small language.
-/
import Derived.Test.YtmghejoigggooaaGreatDoorXAv5
import Derived.Deep.Quiet
namespace Go.Av
open Go Go.RowKit

def SOpd.of : Operand → SOpd
  | .tmp i => .t i
  | .const v => .c (AV.ofValue v)
  | .func i => .f i
  | .global i => .g i

def aggD : TypeDesc → Bool
  | .struct _ | .array _ _ => true
  | _ => false

section
variable (P : Program)

def sizeT (t : TypeId) : Option Nat := (P.info? t).map (·.size)
def zeroT (t : TypeId) : Option (List AV) :=
  match (P.info? t).bind (·.zero) with
  | some z => if z.cells.toList.all (·.oneCell') then some (z.cells.toList.map AV.ofOne) else none
  | none => none

def flatFs (ft : TypeId → Option (List Nat)) : List Field → Nat → Option (List Nat)
  | [], _ => some []
  | f :: fs, o => if f.name == "_" || f.offset != o then none else match ft f.type with
    | some ks => match flatFs ft fs (o + ks.length) with
      | some ks' => some (ks ++ ks')
      | none => none
    | none => none

/-- The kinds of the cells of a type whose values are equal where all their cells are. -/
def flatT : Nat → TypeId → Option (List Nat)
  | 0, _ => none
  | d + 1, t =>
    match P.underlying t with
    | some .bool => some [0]
    | some (.int _) => some [1]
    | some .string => some [2]
    | some (.struct fs) => if P.stoodInHeld t then none else match flatFs (flatT d) fs.toList 0 with
        | some ks => if sizeT P t == some ks.length then some ks else none
        | none => none
    | _ => none

def nilKind (d : TypeDesc) (y : Operand) : Option Nat :=
  match d, y with
  | .slice _, .const (.slice none 0 0) => some 0
  | .map _ _, .const (.map none) => some 1
  | .func _ _ _, .const .nilFunc => some 2
  | .pointer _, .const (.pointer none) => some 3
  | _, _ => none

def transBuiltin : Builtin → List Operand → List TypeId → Option SOp
  | .len, [x], [t] => match P.underlying t with
    | some .string => some (.lenS (SOpd.of x))
    | some (.slice _) => some (.len (SOpd.of x))
    | _ => none
  | .append, [x, y], [t, t'] => match P.underlying t, P.underlying t' with
    | some (.slice e), some (.slice _) => match P.info? e, zeroT P e with
      | some i, some z => if z.length == i.size && i.size != 0 && i.bytes != 0 then some (.append e i.size i.bytes (SOpd.of x) (SOpd.of y)) else none
      | _, _ => none
    | _, _ => none
  | _, _, _ => none

def isNumOp : BinOp → Bool
  | .add | .sub | .mul | .quo | .rem | .eql | .neq | .lss | .leq | .gtr | .geq => true
  | _ => false
def isStrOp : BinOp → Bool
  | .add | .eql | .neq | .lss | .leq | .gtr | .geq => true
  | _ => false
def eqNeg : BinOp → Option Bool
  | .eql => some false
  | .neq => some true
  | _ => none

def transBin (op : BinOp) (t : TypeId) (x y : Operand) : Option SOp :=
  match P.underlying t with
  | some (.int _) => if isNumOp op then some (.bin op (SOpd.of x) (SOpd.of y)) else none
  | some .string => if isStrOp op then some (.bin op (SOpd.of x) (SOpd.of y)) else none
  | some .bool => (eqNeg op).map fun n => .eqb n (SOpd.of x) (SOpd.of y)
  | some (.struct _) => match flatT P 8 t with
    | some ks => if P.eqGuardType P.depth t then none else (eqNeg op).map fun n => .eqs n ks (SOpd.of x) (SOpd.of y)
    | none => none
  | some d => match nilKind d y with
    | some k => (eqNeg op).map fun n => .eqnil k n (SOpd.of x)
    | none => none
  | none => none

def transLoad (t : TypeId) (x : Operand) : Option SOp :=
  match P.underlying t, sizeT P t with
  | some d, some n => if aggD d || n == 1 then some (.load (aggD d) n (SOpd.of x)) else none
  | _, _ => none

def transBuild (t : TypeId) (parts : Array (Nat × Operand)) : Option SOp :=
  match P.underlying t, zeroT P t with
  | some (.struct fs), some z => if !(fs.toList.all fun f => (P.info? f.type).isSome) then none else (parts.toList.mapM fun (p : Nat × Operand) => match fs[p.1]? with
      | some f => (sizeT P f.type).map fun n => (f.offset, n, SOpd.of p.2)
      | none => none).map (.build z ·)
  | _, _ => none

def transFieldA (t : TypeId) (x : Operand) (i : Nat) : Option SOp :=
  match P.underlying t with
  | some (.struct fs) => match fs[i]? with
    | some f => match sizeT P f.type with
      | some (_ + 1) => some (.fieldA f.offset (SOpd.of x))
      | _ => none
    | none => none
  | _ => none

def transIndexA (t : TypeId) (x i : Operand) : Option SOp :=
  match P.underlying t with
  | some (.slice e) => (sizeT P e).map (.indexA · (SOpd.of x) (SOpd.of i))
  | some (.array len e) => (sizeT P e).map (.indexP len · (SOpd.of x) (SOpd.of i))
  | _ => none

def transIndex (t : TypeId) (x i : Operand) : Option SOp :=
  match P.underlying t with
  | some .string => some (.index (SOpd.of x) (SOpd.of i))
  | _ => none

def transSlice (t : TypeId) (x : Operand) (lo hi : Option Operand) : Option SOp :=
  match P.underlying t with
  | some (.slice e) => (sizeT P e).map (.slice · (SOpd.of x) (lo.map SOpd.of) (hi.map SOpd.of))
  | some .string => some (.sliceS (SOpd.of x) (lo.map SOpd.of) (hi.map SOpd.of))
  | _ => none

def transField (t : TypeId) (x : Operand) (i : Nat) : Option SOp :=
  match P.underlying t with
  | some (.struct fs) => match fs[i]? with
    | some f => match P.underlying f.type, sizeT P f.type with
      | some d, some n => if aggD d || n == 1 then some (.field (aggD d) f.offset n (SOpd.of x)) else none
      | _, _ => none
    | none => none
  | _ => none

def transConv (src dst : TypeId) (x : Operand) : Option SOp :=
  match P.underlying src, P.underlying dst with
  | some (.int _), some (.int k) => some (.conv k (SOpd.of x))
  | some .string, some .string => some (.str (SOpd.of x))
  | _, _ => none

def transBuildS (t : TypeId) (len : Nat) (parts : Array (Nat × Operand)) : Option SOp :=
  match P.underlying t with
  | some (.slice e) => match sizeT P e, zeroT P e with
    | some n, some z => if z.length == n && n != 0 && decide (len * n ≤ 16777216) then some (.buildS e n len (List.replicate len z).flatten (parts.toList.map fun (p : Nat × Operand) => (p.1, SOpd.of p.2))) else none
    | _, _ => none
  | _ => none

def transMkI (t : TypeId) (x : Operand) : Option SOp :=
  match P.underlying t with
  | some (.interface _) => none
  | some _ => some (.mkI t (SOpd.of x))
  | none => none

def transOp : Op → Option SOp
  | .move x => some (.mov (SOpd.of x))
  | .assign x => some (.mov (SOpd.of x))
  | .pick c a b => some (.pick (SOpd.of c) (SOpd.of a) (SOpd.of b))
  | .nilCheck x => some (.nilCheck (SOpd.of x))
  | .load t x => transLoad P t x
  | .build t parts => transBuild P t parts
  | .fieldAddr t x i => transFieldA P t x i
  | .indexAddr t x i => transIndexA P t x i
  | .index t x i => transIndex P t x i
  | .slice t x lo hi mx => if mx.isSome then none else transSlice P t x lo hi
  | .field t x i => transField P t x i
  | .extract x i => some (.extract i (SOpd.of x))
  | .binOp op t x y _ => transBin P op t x y
  | .unOp op _ x => match op with
    | .not => some (.not (SOpd.of x))
    | _ => none
  | .convert src dst x => transConv P src dst x
  | .makeFunc fn first cap => some (.mkfun fn (first.toList.map SOpd.of) (cap.toList.map SOpd.of))
  | .alloc e => (zeroT P e).map (.alloc e ·)
  | .box e x => (sizeT P e).map (.box e · (SOpd.of x))
  | .buildSlice t len parts => transBuildS P t len parts
  | .store t a x => (sizeT P t).map (.store · (SOpd.of a) (SOpd.of x))
  | .call c => match c.callee with
    | .builtin b => transBuiltin P b c.args.toList c.argTypes.toList
    | .value f => some (.call (SOpd.of f) (c.args.toList.map SOpd.of))
    | .invoke r name => some (.invoke (SOpd.of r) name (c.args.toList.map SOpd.of))
  | .makeInterface t x => transMkI P t x
  | _ => none

def transGuard (ops : Array Oper) : Option (Nat × Bool) → Option (Option (Nat × Bool))
  | none => some none
  | some (j, b) => ((ops[j]?).bind (·.dst)).map fun d => some (d, b)

def transDst (n : Nat) : Option Nat → Bool
  | none => true
  | some d => decide (d < n)

def transOper (n : Nat) (ops : Array Oper) (o : Oper) : Option SOper :=
  match transGuard ops o.guard, transDst n o.dst with
  | some g, true => some ⟨o.dst, g, (transOp P o.op).getD (.raw o.op)⟩
  | _, _ => none

def transOps (n : Nat) (ops : Array Oper) : List Oper → Option (List SOper)
  | [] => some []
  | o :: rest => match transOper P n ops o, transOps n ops rest with
    | some so, some sos => some (so :: sos)
    | _, _ => none

/-- A region that draws may be run in the order of its list: each operation does not look at memory and is free to go first, or is the only one that is ready. -/
def drawSeq (ops : Array Oper) : List SOper → Nat → Array Bool → Bool
  | [], _, listed => (Region.ready .any ops listed).isEmpty
  | so :: l, k, listed => ((so.op.slot && (Region.free .any ops listed k && (Region.ready .any ops listed).contains k)) || Region.ready .any ops listed == [k]) && drawSeq ops l (k + 1) (listed.setIfInBounds k true)

def trans (n : Nat) (keep : Nat → List Nat × Bool) : Code → Option SCode
  | .skip => some .skip
  | .region id ops false => (transOps P n ops ops.toList).map fun sos => if (keep id).2 then .ghost sos (keep id).1 else .region sos (keep id).1
  | .region id ops true => (transOps P n ops ops.toList).map fun sos =>
      if P.follows .mixedOrders && (Region.noSelect ops && drawSeq ops sos 0 (Array.replicate ops.size false)) then .drawL sos (keep id).1
      else if P.follows .mixedOrders && Region.lexB .any ops then .draw sos (keep id).1 else .bad
  | .seq a b => match trans n keep a, trans n keep b with
    | some x, some y => some (.seq x y)
    | _, _ => none
  | .cond c a b => match trans n keep a, trans n keep b with
    | some x, some y => some (.cond (SOpd.of c) x y)
    | _, _ => none
  | .block id a => (trans n keep a).map fun x => .seq (.block id x) (.region [] (keep (id + 1000000)).1)
  | .loop a => (trans n keep a).map .loop
  | .exit id => some (.exit id)
  | .ret => some .ret
  | _ => some .bad

end
end Go.Av
