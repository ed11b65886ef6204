/-
  ABSTRACT VALUES, 6: from the loaded code into the small language.
-/
import Derived.Test.YtnoakpkjccigoaaGreatDoorVXAv4toXAv5
import Derived.Deep.Quiet
import Derived.OrdersHeld
namespace Go.Av
open Go Go.RowKit List
set_option linter.unusedSimpArgs false
set_option linter.unusedVariables false
def SOpd.of:Operand->SOpd
 | .tmp i=>.t i
 | .const v=>.c (AV.ofValue v)
 | .func i=>.f i
 | .global i=>.g i
def aggD:TypeDesc->Bool
 | .struct _| .array _ _=>true
 |_=>false
section
variable (P:Program)
def bj (t:TypeId):Option Nat:=(P.info? t).map (·.size)
def cK (t:TypeId):Option (List AV):=
 match (P.info? t).bind (·.zero)with
 |some z=>if z.cells.toList.all (·.oneCell')then some (z.cells.toList.map AV.ofOne)else none
 |none=>none
def eP (D:TypeId->Option (List Nat)):List Field->Nat->Option (List Nat)
 |[],_=>some []
 |f::fs,o=>if f.name== "_" ||f.offset != o then none else match D f.type with
  |some ks=>match eP D fs (o+ks.length)with
   |some ks'=>some (ks++ks')
   |none=>none
  |none=>none
def du:Nat->TypeId->Option (List Nat)
 |0,_=>none
 |d+1,t=>
  match P.underlying t with
  |some .bool=>some [0]
  |some (.int _)=>some [1]
  |some .string=>some [2]
  |some (.struct fs)=>if P.stoodInHeld t then none else match eP (du d) fs.toList 0 with
    |some ks=>if bj P t==some ks.length then some ks else none
    |none=>none
  |_=>none
def mG (d:TypeDesc) (y:Operand):Option Nat:=
 match d,y with
 | .slice _,.const (.slice none 0 0)=>some 0
 | .map _ _,.const (.map none)=>some 1
 | .func _ _ _,.const .nilFunc=>some 2
 | .pointer _,.const (.pointer none)=>some 3
 |_,_=>none
def bC:Builtin->List Operand->List TypeId->Option SOp
 | .len,[x],[t]=>match P.underlying t with
  |some .string=>some (.lenS (SOpd.of x))
  |some (.slice _)=>some (.len (SOpd.of x))
  |_=>none
 | .append,[x,y],[t,t']=>match P.underlying t,P.underlying t' with
  |some (.slice e),some (.slice _)=>match P.info? e,cK P e with
   |some i,some z=>if z.length==i.size&&i.size != 0&&i.bytes != 0 then some (.append e i.size i.bytes (SOpd.of x) (SOpd.of y))else none
   |_,_=>none
  |_,_=>none
 |_,_,_=>none
def isNumOp:BinOp->Bool
 | .add| .sub| .mul| .quo| .rem| .eql| .neq| .lss| .leq| .gtr| .geq=>true
 |_=>false
def isStrOp:BinOp->Bool
 | .add| .eql| .neq| .lss| .leq| .gtr| .geq=>true
 |_=>false
def eqNeg:BinOp->Option Bool
 | .eql=>some false
 | .neq=>some true
 |_=>none
def eY (op:BinOp) (t:TypeId) (x y:Operand):Option SOp:=
 match P.underlying t with
 |some (.int _)=>if isNumOp op then some (.bin op (SOpd.of x) (SOpd.of y))else none
 |some .string=>if isStrOp op then some (.bin op (SOpd.of x) (SOpd.of y))else none
 |some .bool=>(eqNeg op).map λn=>.eqb n (SOpd.of x) (SOpd.of y)
 |some (.struct _)=>match du P 8 t with
  |some ks=>if P.eqGuardType P.depth t then none else (eqNeg op).map λn=>.eqs n ks (SOpd.of x) (SOpd.of y)
  |none=>none
 |some d=>match mG d y with
  |some k=>(eqNeg op).map λn=>.eqnil k n (SOpd.of x)
  |none=>none
 |none=>none
def da (t:TypeId) (x:Operand):Option SOp:=
 match P.underlying t,bj P t with
 |some d,some n=>if aggD d||n==1 then some (.load (aggD d) n (SOpd.of x))else none
 |_,_=>none
def dA (t:TypeId) (parts:Array (Nat×Operand)):Option SOp:=
 match P.underlying t,cK P t with
 |some (.struct fs),some z=>if !(fs.toList.all λf=>(P.info? f.type).isSome)then none else (parts.toList.mapM λ(p:Nat×Operand)=>match fs[p.1]? with
   |some f=>(bj P f.type).map λn=>(f.offset,n,SOpd.of p.2)
   |none=>none).map (.build z ·)
 |_,_=>none
def bM (t:TypeId) (x:Operand) (i:Nat):Option SOp:=
 match P.underlying t with
 |some (.struct fs)=>match fs[i]? with
  |some f=>match bj P f.type with
   |some (_+1)=>some (.fieldA f.offset (SOpd.of x))
   |_=>none
  |none=>none
 |_=>none
def cY (t:TypeId) (x i:Operand):Option SOp:=
 match P.underlying t with
 |some (.slice e)=>(bj P e).map (.indexA · (SOpd.of x) (SOpd.of i))
 |some (.array len e)=>(bj P e).map (.indexP len · (SOpd.of x) (SOpd.of i))
 |_=>none
def dw (t:TypeId) (x i:Operand):Option SOp:=
 match P.underlying t with
 |some .string=>some (.index (SOpd.of x) (SOpd.of i))
 |_=>none
def dz (t:TypeId) (x:Operand) (lo hi:Option Operand):Option SOp:=
 match P.underlying t with
 |some (.slice e)=>(bj P e).map (.slice · (SOpd.of x) (lo.map SOpd.of) (hi.map SOpd.of))
 |some .string=>some (.sliceS (SOpd.of x) (lo.map SOpd.of) (hi.map SOpd.of))
 |_=>none
def dE (t:TypeId) (x:Operand) (i:Nat):Option SOp:=
 match P.underlying t with
 |some (.struct fs)=>match fs[i]? with
  |some f=>match P.underlying f.type,bj P f.type with
   |some d,some n=>if aggD d||n==1 then some (.field (aggD d) f.offset n (SOpd.of x))else none
   |_,_=>none
  |none=>none
 |_=>none
def ee (D dst:TypeId) (x:Operand):Option SOp:=
 match P.underlying D,P.underlying dst with
 |some (.int _),some (.int k)=>some (.conv k (SOpd.of x))
 |some .string,some .string=>some (.str (SOpd.of x))
 |_,_=>none
def cZ (t:TypeId) (len:Nat) (parts:Array (Nat×Operand)):Option SOp:=
 match P.underlying t with
 |some (.slice e)=>match bj P e,cK P e with
  |some n,some z=>if z.length==n&&n != 0&&decide (len*n<=16777216)then some (.buildS e n len (List.replicate len z).flatten (parts.toList.map λ(p:Nat×Operand)=>(p.1,SOpd.of p.2)))else none
  |_,_=>none
 |_=>none
def fj (t:TypeId) (x:Operand):Option SOp:=
 match P.underlying t with
 |some (.interface _)=>none
 |some _=>some (.mkI t (SOpd.of x))
 |none=>none
def bQ:Op->Option SOp
 | .move x=>some (.mov (SOpd.of x))
 | .assign x=>some (.mov (SOpd.of x))
 | .pick c a b=>some (.pick (SOpd.of c) (SOpd.of a) (SOpd.of b))
 | .nilCheck x=>some (.nilCheck (SOpd.of x))
 | .load t x=>da P t x
 | .build t parts=>dA P t parts
 | .fieldAddr t x i=>bM P t x i
 | .indexAddr t x i=>cY P t x i
 | .index t x i=>dw P t x i
 | .slice t x lo hi mx=>if mx.isSome then none else dz P t x lo hi
 | .field t x i=>dE P t x i
 | .extract x i=>some (.extract i (SOpd.of x))
 | .binOp op t x y _=>eY P op t x y
 | .unOp op _ x=>match op with
  | .not=>some (.not (SOpd.of x))
  |_=>none
 | .convert src dst x=>ee P src dst x
 | .makeFunc fn first cap=>some (.mkfun fn (first.toList.map SOpd.of) (cap.toList.map SOpd.of))
 | .alloc e=>(cK P e).map (.alloc e ·)
 | .box e x=>(bj P e).map (.box e · (SOpd.of x))
 | .buildSlice t len parts=>cZ P t len parts
 | .store t a x=>(bj P t).map (.store · (SOpd.of a) (SOpd.of x))
 | .call c=>match c.callee with
  | .builtin b=>bC P b c.args.toList c.argTypes.toList
  | .value f=>some (.call (SOpd.of f) (c.args.toList.map SOpd.of))
  | .invoke r name=>some (.invoke (SOpd.of r) name (c.args.toList.map SOpd.of))
 | .makeInterface t x=>fj P t x
 |_=>none
def ej (ops:Array Oper):Option (Nat×Bool)->Option (Option (Nat×Bool))
 |none=>some none
 |some (j,b)=>((ops[j]?).bind (·.dst)).map λd=>some (d,b)
def dr (n:Nat):Option Nat->Bool
 |none=>true
 |some d=>decide (d<n)
def roBox (E:Nat->Bool) (o:Oper) (D:SOp):SOp:=
 match o.op,o.dst with
 | .box e x,some d=>if E d then (match bj P e with
  |some m=>.boxR m (SOpd.of x)
  |none=>D)else D
 |_,some d=>if E (1000000+d)then .raw o.op else D
 |_,_=>D
def d9 (n:Nat) (D:Nat->Bool) (ops:Array Oper) (o:Oper):Option SOper:=
 match ej ops o.guard,dr n o.dst with
 |some g,true=>some ⟨o.dst,g,roBox P D o ((bQ P o.op).getD (.raw o.op))⟩
 |_,_=>none
def ci (n:Nat) (D:Nat->Bool) (ops:Array Oper):List Oper->Option (List SOper)
 |[]=>some []
 |o::rest=>match d9 P n D ops o,ci n D ops rest with
  |some so,some sos=>some (so::sos)
  |_,_=>none
def ca (d:Option Nat) (good:List Nat) (keep:Bool):List Nat:=
 match d with
 |none=>good
 |some d=>if keep then d::good else good.filter λj=>!(j==d)
def gz (n:Nat) (E:Nat->Bool) (ops:Array Oper) (D:Array Bool) (good:List Nat) (i:Nat):Option (Nat×SOper×List Nat):=
 match ops[i]? with
 |none=>none
 |some o=>match d9 P n E ops o with
  |none=>none
  |some so=>if Region.free .any ops D i then
    match o.op with
    | .fieldAddr _ (.tmp p) _=>if so.op.slot then some (i,so,ca o.dst good (good.contains p))else none
    | .load t (.tmp p)=>if good.contains p then
      match P.underlying t,bj P t with
      |some d,some m=>if aggD d||m==1 then some (i,{so with op:=.loadF (aggD d) m (.t p)},ca o.dst good false)else none
      |_,_=>none
     else none
    |_=>if so.op.slot then some (i,so,ca o.dst good false)else none
   else none
def j7 (n:Nat) (D:Nat->Bool) (ops:Array Oper):Nat->Array Bool->List Nat->Option (List SOper)
 |0,listed,_=>if (Region.ready .any ops listed).isEmpty then some []else none
 |f+1,listed,good=>
  if (Region.ready .any ops listed).isEmpty then some []else
  match (Region.ready .any ops listed).findSome? (gz P n D ops listed good)with
  |some (i,so,good')=>(j7 n D ops f (listed.setIfInBounds i true) good').map (so:: ·)
  |none=>match Region.ready .any ops listed with
   |[i]=>match (ops[i]?).bind (d9 P n D ops)with
    |some so=>(j7 n D ops f (listed.setIfInBounds i true) (ca so.dst good false)).map (so:: ·)
    |none=>none
   |_=>none
def allD:List (Option DT)->Option DT
 |[]=>none
 |x::xs=>match xs with
  |[]=>x
  |_::_=>match x,allD xs with
   |some a,some b=>some (.both a b)
   |_,_=>none
def jZ (n:Nat) (D:Nat->Bool) (ops:Array Oper):Nat->Array Bool->List Nat->Option DT
 |0,listed,_=>if (Region.ready .any ops listed).isEmpty then some .done else none
 |f+1,listed,good=>
  if (Region.ready .any ops listed).isEmpty then some .done else
  match (Region.ready .any ops listed).findSome? (gz P n D ops listed good)with
  |some (i,so,good')=>(jZ n D ops f (listed.setIfInBounds i true) good').map (.step so ·)
  |none=>allD ((Region.ready .any ops listed).map λi=>match (ops[i]?).bind (d9 P n D ops)with
   |some so=>(jZ n D ops f (listed.setIfInBounds i true) (ca so.dst good false)).map (.step so ·)
   |none=>none)
def quietOp:SOp->Bool
 | .call _ _| .invoke _ _ _| .alloc _ _| .box _ _ _| .boxR _ _| .buildS _ _ _ _ _| .store _ _ _| .append _ _ _ _ _| .raw _=>false
 |_=>true
def jT (E:Nat->Bool) (ops:List Oper):List Nat:=
 (ops.flatMap λo=>o.op.operands.toList.flatMap λx=>match x with
  | .tmp t=>if E t&& !(ops.any λD=>D.dst==some t)then [t]else []
  |_=>[]).eraseDups
def gt (ops:Array Oper):List SOper->Nat->Array Bool->Bool
 |[],_,listed=>(Region.ready .any ops listed).isEmpty
 |so::l,k,listed=>((so.op.slot&&(Region.free .any ops listed k&&(Region.ready .any ops listed).contains k))||Region.ready .any ops listed==[k])&&gt ops l (k+1) (listed.setIfInBounds k true)
def trans (n:Nat) (keep:Nat->List Nat×Bool):Code->Option SCode
 | .skip=>some .skip
 | .region id ops false=>(ci P n (λd=>(keep (2000000+d)).2) ops ops.toList).map λD=>if (keep id).2 then .ghost D (keep id).1 else .region D (keep id).1
 | .region id ops true=>(ci P n (λd=>(keep (2000000+d)).2) ops ops.toList).map λD=>
   if P.follows .mixedOrders&&(Region.noSelect ops&&gt ops D 0 (Array.replicate ops.size false))then .drawL D (keep id).1
   else match (if P.follows .mixedOrders&&Region.noSelect ops then j7 P n (λd=>(keep (2000000+d)).2) ops ops.size (Array.replicate ops.size false) (jT (λd=>(keep (2000000+d)).2) ops.toList)else none)with
   |some sl=>.drawL sl (keep id).1
   |none=>if (P.follows .mixedOrders&&Region.lexB .any ops)&&D.all (λE=>quietOp E.op)then .draw D (keep id).1 else
    match (if P.follows .mixedOrders&&Region.noSelect ops then jZ P n (λd=>(keep (2000000+d)).2) ops ops.size (Array.replicate ops.size false) (jT (λd=>(keep (2000000+d)).2) ops.toList)else none)with
    |some t=>.drawT t (keep id).1
    |none=>.bad
 | .seq a b=>match trans n keep a,trans n keep b with
  |some x,some y=>some (.seq x y)
  |_,_=>none
 | .cond c a b=>match trans n keep a,trans n keep b with
  |some x,some y=>some (.cond (SOpd.of c) x y)
  |_,_=>none
 | .block id a=>(trans n keep a).map λx=>.seq (.block id x) (.region [] (keep (id+1000000)).1)
 | .loop a=>(trans n keep a).map .loop
 | .exit id=>some (.exit id)
 | .ret=>some .ret
 |_=>some .bad
end
def Same (w w':World):Prop:=w.heap.size<=w'.heap.size/\∀b,b<w.heap.size->w'.heap[b]? =w.heap[b]?
theorem Same.refl (w:World):Same w w:=⟨Nat.le_refl _,λ_ _=>rfl⟩
theorem Same.cell {w w':World} (h:Same w w') {a:Addr} {v:Value} (D:w.cell? a=some v):w'.cell? a=some v:=by
 rw[World.cell?_of_block (w:=w) (h.2 a.block (fv D))];exact D
theorem Store.get_mem:∀{σ:Store} {b:Nat} {x:AObj},σ.get b=some x->(b,x)∈σ
 |[],b,x,h=>by simp[Store.get]at h
 |(k,y)::s,b,x,h=>by
  simp only[Store.get]at h
  by_cases D:k=b
  ·subst D;rw[if_pos rfl]at h;cases h;simp
  ·rw[if_neg D]at h;exact mem_cons_of_mem _ (Store.get_mem h)
section
variable {G:Glob} {P:Program} {τ:Store} {w:World} {env:Env} {a:Act}
theorem ao (E:Sat G τ w) (D:∀j,Rep τ w (env.get j) (a.tmps.getD j undef)) (x:Operand):Rep τ w ((SOpd.of x).eval G env) (a.eval x):=by
 cases x with
 |tmp i=>exact D i
 |const v=>exact Rep.ofValue τ w v
 |func f=>simp only[SOpd.of,SOpd.eval,Rep];rfl
 |global g=>
  simp only[SOpd.of,SOpd.eval]
  split
  ·rename_i cs h
   simp only[Rep]
   exact⟨⟨g,0,none⟩,rfl,G.tabs E.glob h⟩
  ·simp only[Rep];rfl
theorem lB (E:Sat G τ w) (D:∀j,Rep τ w (env.get j) (a.tmps.getD j undef)):∀xs:List Operand,RepL τ w ((xs.map SOpd.of).map (·.eval G env)) (xs.map a.eval)
 |[]=>by simp[RepL]
 |x::xs=>by
  simp only[map_cons,RepL]
  exact⟨_,_,rfl,ao E D x,lB E D xs⟩
theorem iO {ad:Addr} {cs:List AV} (h:RepAt τ w ad 0 cs) (n:Nat) (X:n<=cs.length):
  ∃vs:List Value,vs.length=n/\RepL τ w (cs.take n) vs/\(∀v∈vs,v.oneCell'=true)/\(∀j v,vs[j]? =some v->w.cell? (ad.add j)=some v):=by
 induction n with
 |zero=>exact⟨[],rfl,by simp[RepL],by simp,by simp⟩
 |succ n ih=>
  obtain⟨vs,I,J,M,N⟩:=ih (by omega)
  obtain⟨u,⟨F,_⟩,O,T⟩:=h.get n (by omega)
  rw[Nat.zero_add]at F
  refine⟨vs++[u],by simp[I],?_,?_,?_⟩
  ·rw[take_succ_eq_append_getElem (by omega)]
   exact RepL.append J (by simp only[RepL];exact⟨u,[],rfl,T,rfl⟩)
  ·intro v D
   rcases mem_append.1 D with D|D
   ·exact M v D
   ·simp at D;subst D;exact O
  ·intro j v D
   rw[getElem?_append]at D
   split at D
   ·exact N j v D
   ·rename_i V
    have:j-vs.length=0:=by
     rcases Nat.eq_zero_or_pos (j-vs.length)with e|e
     ·exact e
     ·simp[show j-vs.length≠0 by omega]at D
    have E:j=n:=by omega
    subst E
    simp[this]at D
    subst D
    exact F
def isLoad:Op->Bool
 | .load _ _=>true
 |_=>false
def QOk (P:Program) (τ:Store) (w:World) (o:Oper) (a:Act) (K:AV->Prop):Prop:=
 ∃r u,K r/\Rep τ w r u/\∀w',(isLoad o.op=true->Same w w')->(execOp a.eval o).run P w'= .ok (.value u) w'
variable {o:Oper} {K:AV->Prop}
theorem q_mov {x:Operand} (D:o.op= .move x\/o.op= .assign x) (F:Sat G τ w) (E:∀j,Rep τ w (env.get j) (a.tmps.getD j undef)) (h:K ((SOpd.of x).eval G env)):QOk P τ w o a K:=
 ⟨_,a.eval x,h,ao F E x,λw' _=>by rcases D with D|D<;>simp[execOp,D]⟩
theorem q_pick {c x y:Operand} (I:o.op= .pick c x y) (F:Sat G τ w) (E:∀j,Rep τ w (env.get j) (a.tmps.getD j undef))
  (h:jg ((SOpd.of c).eval G env) ((SOpd.of x).eval G env) ((SOpd.of y).eval G env) K):QOk P τ w o a K:=by
 have D:=ao (G:=G) F E c
 unfold jg at h
 split at h
 ·rename_i t J
  rw[J]at D
  simp only[Rep]at D
  cases t with
  |true=>exact⟨_,a.eval x,h.1 rfl,ao F E x,λw' _=>by simp[execOp,I,D,asBool]⟩
  |false=>exact⟨_,a.eval y,h.2 rfl,ao F E y,λw' _=>by simp[execOp,I,D,asBool]⟩
 ·exact h.elim
theorem pi {x:Operand} (F:o.op= .nilCheck x) (J:Sat G τ w) (I:∀j,Rep τ w (env.get j) (a.tmps.getD j undef))
  (h:nilAV ((SOpd.of x).eval G env) K):QOk P τ w o a K:=by
 have D:=ao (G:=G) J I x
 unfold nilAV at h
 split at h
 ·rename_i cs E
  rw[E]at D
  refine⟨_,a.eval x,h,D,λw' _=>?_⟩
  simp only[Rep]at D
  obtain⟨ad,M,_⟩:=D
  simp[execOp,F,M]
 ·rename_i ad E
  rw[E]at D
  refine⟨_,a.eval x,h,D,λw' _=>?_⟩
  simp only[Rep]at D
  simp[execOp,F,D]
 ·rename_i k fs cs E
  rw[E]at D
  refine⟨_,a.eval x,h,D,λw' _=>?_⟩
  simp only[Rep]at D
  simp[execOp,F,D]
 ·exact h.elim
theorem cy {d:TypeDesc} {t:TypeId} (D:P.underlying t=some d) (w':World):(isAgg t).run P w'= .ok (aggD d) w':=by
 unfold isAgg
 rw[Sem.run_bind,run_underlying D w']
 cases d<;>simp[aggD]
theorem bv {n:Nat} {t:TypeId} (D:bj P t=some n) (w':World):(sizeOf t).run P w'= .ok n w':=by
 unfold bj at D
 cases E:P.info? t with
 |none=>simp[E]at D
 |some i=>simp[E]at D;simp[sizeOf,typeInfo,E,D]
theorem iN {d:TypeDesc} {t:TypeId} {n:Nat} (M:P.underlying t=some d) (J:bj P t=some n) (D:(aggD d||n==1)=true) (ad:Addr) (vs:List Value) (I:vs.length=n) (w':World)
  (E:∀j v,vs[j]? =some v->w'.cell? (ad.add j)=some v):(loadVar t ad).run P w'= .ok (if aggD d then .agg vs.toArray else vs.headD undef) w':=by
 subst I
 unfold loadVar
 rw[Sem.run_bind,cy M]
 cases F:aggD d with
 |true=>simp[bv J,run_loadCells_list (P:=P) w' ad vs E]
 |false=>
  simp[F]at D
  obtain⟨v,rfl⟩:∃v,vs=[v]:=by
   match vs,D with
   |[v],_=>exact⟨v,rfl⟩
  have:=E 0 v rfl
  have e:ad.add 0=ad:=by simp[Addr.add]
  rw[e]at this
  simp[this]
theorem mV {t:TypeId} {d:TypeDesc} {n:Nat} (hu:P.underlying t=some d) (hn:bj P t=some n) (O:(aggD d||n==1)=true)
  {σ ρ:Store} (Y:τ=σ++ρ) (hS:Sat G τ w) {X:AV} {q:Value} (N:Rep τ w X q) (h:l6 σ (aggD d) n X K):
  ∃ad r v,q= .pointer (some ad)/\K r/\Rep τ w r v/\∀w',Same w w'->(loadVar t ad).run P w'= .ok v w':=by
 have I:∀(ad:Addr) (cs:List AV) (vs:List Value),q= .pointer (some ad)->vs.length=n->RepL τ w (cs.take n) vs->(∀v∈vs,v.oneCell'=true)->
   (∀w',Same w w'->∀j v,vs[j]? =some v->w'.cell? (ad.add j)=some v)->eV (aggD d) n cs K->∃ad r v,q= .pointer (some ad)/\K r/\Rep τ w r v/\∀w',Same w w'->(loadVar t ad).run P w'= .ok v w':=by
  intro ad cs vs V hl D F hc hk
  refine⟨ad,_,if aggD d then .agg vs.toArray else vs.headD undef,V,hk.2,?_,λw' M=>?_⟩
  ·cases hd:aggD d with
   |true=>simp only[if_true,Rep];exact⟨vs.toArray,rfl,by simpa using F,by simpa using D⟩
   |false=>
    simp[hd]at O
    subst O
    match vs,hl with
    |[v],_=>
     match cs,hk.1 with
     |c::cs,_=>
      simp only[take_succ_cons,take_zero,RepL]at D
      obtain⟨u,us,e,h2,_⟩:=D
      simp only[List.cons.injEq]at e
      simp only[Bool.false_eq_true,if_false,headD_cons]
      rw[e.1];exact h2
  ·exact iN hu hn O ad vs hl w' (hc w' M)
 unfold l6 at h
 split at h
 ·rename_i cs
  simp only[Rep]at N
  obtain⟨ad,V,D⟩:=N
  obtain⟨vs,l1,l2,l3,l4⟩:=iO D n h.1
  exact I ad cs vs V l1 l2 l3 (λw' M j v E=>M.cell (l4 j v E)) h
 ·rename_i b off
  simp only[Rep]at N
  unfold gJ at h
  split at h
  ·rename_i e cs hg
   have hm:(b,AObj.cells e cs)∈τ:=by rw[Y];exact mem_append.2 (.inl (Store.get_mem hg))
   obtain⟨vs,Z,F,D⟩:=hS.obj b _ hm
   have J:=D.length
   have T:n<=(cs.drop off).length:=h.1
   refine I ⟨b,off,none⟩ (cs.drop off) ((vs.toList.drop off).take n) N ?_ (RepL.take n (RepL.drop off D)) ?_ ?_ h
   ·simp at T J ⊢;omega
   ·intro v E
    exact F v (mem_of_mem_drop (mem_of_mem_take E))
   ·intro w' M j v E
    rw[add_lit]
    have hb:w'.heap[b]? =some (.cells vs e (0,0)):=by rw[M.2 b (Array.getElem?_eq_some_iff.1 Z).1];exact Z
    rw[cell_of_row w' b (off+j) vs e (0,0) hb]
    rw[getElem?_take]at E
    split at E
    ·simpa using E
    ·cases E
  ·exact h.elim
 ·exact h.elim
theorem q_load {t:TypeId} {x:Operand} {d:TypeDesc} {n:Nat} (I:o.op= .load t x) (Y:P.underlying t=some d) (O:bj P t=some n) (J:(aggD d||n==1)=true)
  {σ ρ:Store} (E:τ=σ++ρ) (F:Sat G τ w) (M:∀j,Rep τ w (env.get j) (a.tmps.getD j undef)) (h:l6 σ (aggD d) n ((SOpd.of x).eval G env) K):QOk P τ w o a K:=by
 obtain⟨ad,r,v,T,N,V,D⟩:=mV Y O J E F (ao (G:=G) F M x) h
 exact⟨r,v,N,V,λw' X=>by simp[execOp,I,Instr.loadAt,T,Instr.sureAddr,D w' (X (by rw[I];rfl))]⟩
end
theorem aY:∀(l:List AV) (o:Nat) (c:List AV),o+c.length<=l.length->aH l o c=l.take o++c++l.drop (o+c.length)
 |l,0,c,_=>by cases l<;>simp[aH]
 |[],o+1,c,h=>by simp at h
 |x::l,o+1,c,h=>by
  have:=aY l o c (by simp at h;omega)
  simp only[aH,this,take_succ_cons,cons_append]
  rw[show o+1+c.length=(o+c.length)+1 by omega,drop_succ_cons]
theorem kX (o:Nat):∀(vs:List Value) (i:Nat) (C:Array Value),o+i+vs.length<=C.size->
  ((vs.zipIdx i).foldl (λcs (x:Value×Nat)=>cs.setIfInBounds (o+x.2) x.1) C).toList=C.toList.take (o+i)++vs++C.toList.drop (o+i+vs.length)
 |[],i,C,_=>by simp
 |v::vs,i,C,h=>by
  simp only[zipIdx_cons,foldl_cons]
  rw[kX o vs (i+1) (C.setIfInBounds (o+i) v) (by simp at h ⊢;omega)]
  have hi:o+i<C.toList.length:=by simp at h ⊢;omega
  simp only[Array.toList_setIfInBounds,length_cons]
  rw[←Nat.add_assoc,show o+i+1+vs.length=o+i+(vs.length+1)by omega]
  rw[drop_set_of_lt (by omega),take_add_one,getElem?_set_self hi,take_set_of_le (Nat.le_refl _)]
  simp
section
variable {G:Glob} {P:Program} {τ:Store} {w:World} {env:Env} {a:Act} {o:Oper} {K:AV->Prop}
theorem gA {x:AV} {v:Value} {c:List AV} (E:AV.cells? x=some c) (h:Rep τ w x v):RepL τ w c v.cells.toList/\∀u∈v.cells.toList,u.oneCell'=true:=by
 have ez:∀y:AV,Rep τ w y v->v.oneCell'=true->v.cells=#[v]->RepL τ w [y] v.cells.toList/\∀u∈v.cells.toList,u.oneCell'=true:=by
  intro y J F I
  rw[I]
  exact⟨by simp only[RepL];exact⟨v,[],rfl,J,rfl⟩,by simpa using F⟩
 cases x with
 |any=>simp[AV.cells?]at E
 |tup cs=>simp[AV.cells?]at E
 |agg cs=>
  simp[AV.cells?]at E
  subst E
  simp only[Rep]at h
  obtain⟨vs,rfl,F,I⟩:=h
  exact⟨by simpa[Value.cells]using I,by simpa[Value.cells]using F⟩
 |sc u=>
  simp only[AV.cells?]at E
  split at E
  ·rename_i F
   cases E
   have D:=h
   simp only[Rep]at D
   subst D
   refine ez _ h F ?_
   cases v<;>first|rfl|exact absurd F (by simp[Value.oneCell'])
  ·cases E
 |bool b=>
  simp[AV.cells?]at E;subst E
  have D:=h;simp only[Rep]at D;subst D
  exact ez _ h rfl rfl
 |int k n=>
  simp[AV.cells?]at E;subst E
  have D:=h;simp only[Rep]at D;subst D
  exact ez _ h rfl rfl
 |str s=>
  simp[AV.cells?]at E;subst E
  have D:=h;simp only[Rep]at D;subst D
  exact ez _ h rfl rfl
 |nil=>
  simp[AV.cells?]at E;subst E
  have D:=h;simp only[Rep]at D;subst D
  exact ez _ h rfl rfl
 |lst sz rows=>
  simp[AV.cells?]at E;subst E
  have D:=h;simp only[Rep]at D
  rcases D with⟨D,_⟩|⟨ad,cap,D,_⟩<;>subst D<;>exact ez _ h rfl rfl
 |own b e sz rows=>
  simp[AV.cells?]at E;subst E
  have D:=h
  cases b with
  |none=>simp only[Rep]at D;obtain⟨D,_⟩:=D;subst D;exact ez _ h rfl rfl
  |some b=>simp only[Rep]at D;obtain⟨cap,D,_⟩:=D;subst D;exact ez _ h rfl rfl
 |ref cs=>
  simp[AV.cells?]at E;subst E
  have D:=h;simp only[Rep]at D
  obtain⟨ad,D,_⟩:=D
  subst D
  exact ez _ h rfl rfl
theorem oU {cs c:List AV} {C:Array Value} {v:Value} {off n:Nat} (D:RepL τ w cs C.toList) (F:RepL τ w c v.cells.toList) (J:c.length=n) (E:off+n<=cs.length):
  RepL τ w (aH cs off c) (v.cells.zipIdx.foldl (λcs (x:Value×Nat)=>cs.setIfInBounds (off+x.2) x.1) C).toList:=by
 have M:=D.length
 have I:=F.length
 subst J
 have e:=kX off v.cells.toList 0 C (by simp at M I ⊢;omega)
 rw[←Array.foldl_toList,Array.toList_zipIdx]
 rw[e,aY cs off c E]
 simp only[Nat.add_zero]
 rw[I]
 exact RepL.append (RepL.append (RepL.take _ D) F) (RepL.drop _ D)
theorem kd (E:Nat->Option (Nat×Nat)):∀(parts:List (Nat×Operand)) (D:List (Nat×Nat×SOpd)) (cs:List AV) (C:Array Value) (KL:List AV->Prop),
  (∀(j:Nat) p q,parts[j]? =some p->D[j]? =some q->E p.1=some (q.1,q.2.1)/\q.2.2=SOpd.of p.2)->parts.length=D.length->
  Sat G τ w->(∀j,Rep τ w (env.get j) (a.tmps.getD j undef))->RepL τ w cs C.toList->(∀v∈C.toList,v.oneCell'=true)->ga G env cs D KL->
  ∃C' cs',Instr.fill E C (parts.map λp=>(p.1,a.eval p.2))=some C'/\KL cs'/\RepL τ w cs' C'.toList/\∀v∈C'.toList,v.oneCell'=true
 |[],[],cs,C,KL,_,_,_,_,hC,I,h=>⟨C,cs,rfl,h,hC,I⟩
 |p::parts,q::D,cs,C,KL,hp,hl,hS,hE,hC,I,h=>by
  obtain⟨off,n,x⟩:=q
  obtain⟨J,T⟩:=hp 0 p _ rfl rfl
  simp only at J T
  subst T
  simp only[ga,bU]at h
  split at h
  ·rename_i c X
   obtain⟨Y,N,h⟩:=h
   obtain⟨r1,r2⟩:=gA X (ao hS hE p.2)
   have l1:=hC.length
   have l2:=r1.length
   have O:(a.eval p.2).cells.size=n:=by simp at l2;omega
   have Z:off+(a.eval p.2).cells.size<=C.size:=by simp at l1;omega
   have M:=oU (w:=w) hC r1 Y N
   obtain⟨C',cs',k1,k2,k3,k4⟩:=kd E parts D (aH cs off c) _ KL (λj p q I V=>hp (j+1) p q I V) (by simpa using hl) hS hE M (by
    rw[←Array.foldl_toList,Array.toList_zipIdx,kX off _ 0 C (by simp;omega)]
    intro v F
    simp only[mem_append]at F
    rcases F with(F|F)|F
    ·exact I v (mem_of_mem_take F)
    ·exact r2 v F
    ·exact I v (mem_of_mem_drop F)) h
   refine⟨C',cs',?_,k2,k3,k4⟩
   simp only[map_cons,Instr.fill,J]
   rw[if_neg (by simp[O];omega)]
   exact k1
  ·exact h.elim
 |[],_::_,_,_,_,_,hl,_,_,_,_,_=>by simp at hl
 |_::_,[],_,_,_,_,hl,_,_,_,_,_=>by simp at hl
end
section
variable {G:Glob} {P:Program} {τ:Store} {w:World} {env:Env} {a:Act} {o:Oper} {K:AV->Prop}
theorem cG {t:TypeId} {z:List AV} (h:cK P t=some z):∃i v,P.info? t=some i/\i.zero=some v/\RepL τ w z v.cells.toList/\∀u∈v.cells.toList,u.oneCell'=true:=by
 unfold cK at h
 cases hi:P.info? t with
 |none=>simp[hi]at h
 |some i=>
  cases D:i.zero with
  |none=>simp[hi,D]at h
  |some v=>
   simp only[hi,D,Option.bind_some]at h
   split at h
   ·rename_i E
    cases h
    exact⟨i,v,rfl,D,RepL.ofOnes τ w _,λu F=>all_eq_true.1 E u F⟩
   ·cases h
theorem kw {α β:Type} {f:α->Option β}:∀{l:List α} {r:List β},l.mapM f=some r->l.length=r.length/\∀(j:Nat) x y,l[j]? =some x->r[j]? =some y->f x=some y
 |[],r,h=>by simp at h;subst h;simp
 |x::l,r,h=>by
  rw[mapM_cons]at h
  cases D:f x with
  |none=>simp[D]at h
  |some y=>
   cases E:l.mapM f with
   |none=>simp[D,E]at h
   |some r'=>
    simp[D,E]at h
    subst h
    obtain⟨J,M⟩:=kw E
    refine⟨by simp[J],λj u v F I=>?_⟩
    cases j with
    |zero=>simp at F I;subst F I;exact D
    |succ j=>exact M j u v (by simpa using F) (by simpa using I)
theorem lQ {α β:Type} {f:α->Option β}:∀{l:List α},(∀x∈l,(f x).isSome=true)->∃r,l.mapM f=some r
 |[],_=>⟨[],rfl⟩
 |x::l,h=>by
  obtain⟨r,E⟩:=lQ (l:=l) (λy D=>h y (mem_cons_of_mem _ D))
  obtain⟨y,D⟩:=Option.isSome_iff_exists.1 (h x (by simp))
  exact⟨y::r,by simp[mapM_cons,D,E]⟩
theorem q_build {t:TypeId} {parts:Array (Nat×Operand)} {fs:Array Field} {z:List AV} {E:List (Nat×Nat×SOpd)} (ho:o.op= .build t parts) (hu:P.underlying t=some (.struct fs)) (hz:cK P t=some z)
  (O:(fs.toList.all λf=>(P.info? f.type).isSome)=true)
  (hm:(parts.toList.mapM λ(p:Nat×Operand)=>match fs[p.1]? with
    |some f=>(bj P f.type).map λn=>(f.offset,n,SOpd.of p.2)
    |none=>none)=some E)
  (Z:Sat G τ w) (Y:∀j,Rep τ w (env.get j) (a.tmps.getD j undef)) (h:ga G env z E λcs=>K (.agg cs)):QOk P τ w o a K:=by
 obtain⟨i,v,hi,hv,hr,X⟩:=cG (τ:=τ) (w:=w) hz
 obtain⟨hl,hg⟩:=kw hm
 obtain⟨D,M⟩:=lQ (l:=fs.toList) (f:=λf=>(P.info? f.type).map λi=>(f.offset,i.size)) (λf N=>by simpa using all_eq_true.1 O f N)
 obtain⟨V,T⟩:=kw M
 obtain⟨C',cs',k1,k2,k3,k4⟩:=kd (G:=G) (λj=>D.toArray[j]?) parts.toList E z v.cells (λcs=>K (.agg cs)) (by
  intro j p q hp hq
  have:=hg j p q hp hq
  split at this
  ·rename_i f N
   cases F:bj P f.type with
   |none=>simp[F]at this
   |some n=>
    simp only[F,Option.map_some,Option.some.injEq]at this
    subst this
    have J:p.1<D.length:=by
     have:=(Array.getElem?_eq_some_iff.1 N).1
     simp at V;omega
    have e:=T p.1 f D[p.1] (by simpa using N) (getElem?_eq_getElem J)
    simp only[bj]at F
    cases I:P.info? f.type with
    |none=>simp[I]at F
    |some i2=>
     simp[I]at F e
     simp[J,←e,F]
  ·cases this) hl Z Y hr X h
 have hb:P.built t ((parts.map λ(x:Nat×Operand)=>(x.1,a.eval x.2)).toList)=some C':=by
  unfold Program.built
  simp only[hi,hu,hv,M,Array.toList_map]
  exact k1
 exact⟨.agg cs',.agg C',k2,by simp only[Rep];exact⟨C',rfl,k4,k3⟩,λw' _=>by
  simp only[execOp,ho,Sem.run_bind,run_build w' t _ C' hb,Result.andThen_ok,Sem.run_pure]⟩
theorem oe {s:TypeId} {fs:Array Field} {f:Field} {i n:Nat} (F:P.underlying s=some (.struct fs)) (D:fs[i]? =some f) (E:bj P f.type=some (n+1)) (ad:Addr) (w':World):
  (Instr.fieldAt s (.pointer (some ad)) i).run P w'= .ok (.pointer (some (ad.add f.offset))) w':=by
 simp[Instr.fieldAt,run_underlying F,D,Instr.sureAddr,fieldPlace,bv E]
theorem lx {off:Nat} {x:AV} {u:Value} (D:Rep τ w x u) (h:cQ off x K):∃r ad,u= .pointer (some ad)/\K r/\Rep τ w r (.pointer (some (ad.add off))):=by
 unfold cQ at h
 split at h
 ·simp only[Rep]at D
  obtain⟨ad,E,F⟩:=D
  exact⟨_,ad,E,h,by simp only[Rep];exact⟨_,rfl,F.drop off⟩⟩
 ·rename_i b p
  simp only[Rep]at D
  exact⟨_,_,D,h,by simp only[Rep];rw[add_lit]⟩
 ·exact h.elim
theorem q_fieldA {t:TypeId} {x:Operand} {fs:Array Field} {f:Field} {i n:Nat} (M:o.op= .fieldAddr t x i) (T:P.underlying t=some (.struct fs)) (F:fs[i]? =some f) (J:bj P f.type=some (n+1))
  (E:Sat G τ w) (D:∀j,Rep τ w (env.get j) (a.tmps.getD j undef)) (h:cQ f.offset ((SOpd.of x).eval G env) K):QOk P τ w o a K:=by
 obtain⟨r,ad,N,I,O⟩:=lx (ao E D x) h
 exact⟨r,_,I,O,λw' _=>by simp[execOp,M,N,oe T F J]⟩
theorem jS {x:AV} {u:Value} {KI:Int->Prop} (D:Rep τ w x u) (h:intX x KI):∃k n,u= .int k n/\KI n:=by
 unfold intX at h
 split at h
 ·simp only[Rep]at D
  exact⟨_,_,D,h⟩
 ·exact h.elim
theorem lX {x:AV} {u:Value} {KR:Nat->List (List AV)->Prop} (D:Rep τ w x u) (h:ja x KR):
  ∃sz rows,KR sz rows/\((u= .slice none 0 0/\rows=[])\/∃ad cap,u= .slice (some ad) rows.length cap/\rows.length<=cap/\cap<=maxLen/\ar τ w ad sz 0 rows):=by
 unfold ja at h
 split at h
 ·simp only[Rep]at D
  exact⟨_,_,h,D⟩
 ·rename_i g e sz rows
  cases g with
  |none=>simp only[Rep]at D;exact⟨_,_,h,.inl D⟩
  |some b=>
   simp only[Rep]at D
   obtain⟨cap,E,F,I,_,J⟩:=D
   exact⟨_,_,h,.inr ⟨_,cap,E,F,I,J⟩⟩
 ·exact h.elim
theorem q_indexA {t e:TypeId} {x i:Operand} {sz:Nat} (V:o.op= .indexAddr t x i) (X:P.underlying t=some (.slice e)) (T:bj P e=some sz)
  (J:Sat G τ w) (I:∀j,Rep τ w (env.get j) (a.tmps.getD j undef)) (h:mB sz ((SOpd.of x).eval G env) ((SOpd.of i).eval G env) K):QOk P τ w o a K:=by
 unfold mB at h
 split at h
 ·rename_i b off len cap Y
  have F:=ao (G:=G) J I x
  rw[Y]at F
  simp only[Rep]at F
  obtain⟨k,n,hi,M,D,N⟩:=jS (ao J I i) h
  refine⟨_,.pointer (some ⟨b,off+n.toNat*sz,none⟩),N,by simp only[Rep],λw' _=>?_⟩
  simp[execOp,V,F,hi,Instr.indexAt,asIntOf,run_underlying X,M,D,bv T,add_lit]
 obtain⟨ac,rows,⟨rfl,h⟩,F⟩:=lX (ao J I x) h
 obtain⟨k,n,hi,M,D,N⟩:=jS (ao J I i) h
 rcases F with⟨F,O⟩|⟨ad,cap,F,Z,_,O⟩
 ·subst O;simp at D;omega
 ·have E:n.toNat<rows.length:=by omega
  refine⟨_,.pointer (some (ad.add (n.toNat*sz))),N,?_,λw' _=>?_⟩
  ·simp only[Rep]
   refine⟨_,rfl,?_⟩
   have:=O.ref n.toNat E
   simpa[getD_eq_getElem?_getD,E]using this
  ·simp[execOp,V,F,hi,Instr.indexAt,asIntOf,run_underlying X,M,D,bv T]
theorem q_indexP {t e:TypeId} {x i:Operand} {sz len:Nat} (N:o.op= .indexAddr t x i) (V:P.underlying t=some (.array len e)) (M:bj P e=some sz)
  (F:Sat G τ w) (E:∀j,Rep τ w (env.get j) (a.tmps.getD j undef)) (h:indexPX len sz ((SOpd.of x).eval G env) ((SOpd.of i).eval G env) K):QOk P τ w o a K:=by
 obtain⟨k,n,hi,I,D,h⟩:=jS (ao F E i) h
 obtain⟨r,ad,O,J,T⟩:=lx (ao F E x) h
 refine⟨r,_,J,T,λw' _=>?_⟩
 simp[execOp,N,O,hi,Instr.indexAt,Instr.sureAddr,asIntOf,run_underlying V,I,D,bv M]
theorem jK {x:AV} {u:Value} {KS:List UInt8->Prop} (D:Rep τ w x u) (h:strX x KS):∃s,u= .string ⟨⟨s⟩⟩/\KS s:=by
 unfold strX at h
 split at h
 ·simp only[Rep]at D
  exact⟨_,D,h⟩
 ·exact h.elim
theorem iL (s:List UInt8):(ByteArray.mk (Array.mk s)).size=s.length:=rfl
theorem mW (s:List UInt8) (i:Nat):(ByteArray.mk (Array.mk s))[i]? =s[i]? :=by
 by_cases h:i<s.length
 ·rw[ByteArray.getElem?_lt' _ _ (by rw[iL];exact h),getElem?_eq_getElem h];rfl
 ·rw[ByteArray.getElem?_ge' _ _ (by rw[iL];exact h),getElem?_eq_none (by omega)]
theorem q_index {t:TypeId} {x i:Operand} (N:o.op= .index t x i) (O:P.underlying t=some .string)
  (F:Sat G τ w) (E:∀j,Rep τ w (env.get j) (a.tmps.getD j undef)) (h:charX ((SOpd.of x).eval G env) ((SOpd.of i).eval G env) K):QOk P τ w o a K:=by
 obtain⟨s,T,h⟩:=jK (ao F E x) h
 obtain⟨k,n,hi,I,M,J⟩:=jS (ao F E i) h
 have D:n.toNat<s.length:=by omega
 refine⟨_,.int .u8 ((s.getD n.toNat 0).toNat),J,by simp only[Rep],λw' _=>?_⟩
 simp[execOp,N,T,hi,Instr.index,asIntOf,run_underlying O,I,mW,D,getD_eq_getElem?_getD]
theorem dP {env:Env} {d:Int} {x:Option Operand} {KI:Int->Prop} (F:Sat G τ w) (E:∀j,Rep τ w (env.get j) (a.tmps.getD j undef)) (h:eC G env d (x.map SOpd.of) KI):
  ∃n,KI n/\((x=none/\n=d)\/∃y k,x=some y/\a.eval y= .int k n):=by
 cases x with
 |none=>exact⟨d,h,.inl ⟨rfl,rfl⟩⟩
 |some y=>
  simp only[Option.map_some,eC]at h
  have D:=ao (G:=G) F E y
  split at h
  ·rename_i k n I
   rw[I]at D
   simp only[Rep]at D
   exact⟨n,h,.inr ⟨y,k,rfl,D⟩⟩
  ·exact h.elim
theorem ke {b:Bool} {len cap:Nat} {lo hi:Option Operand} {l h:Int} (F:0<=l) (Y:l<=h) (I:h<=cap) (_hlc:len<=cap)
  (X:(lo=none/\l=0)\/∃y k,lo=some y/\a.eval y= .int k l) (V:(hi=none/\h=len)\/∃y k,hi=some y/\a.eval y= .int k h) (w':World):
  (Instr.sliceBounds b len cap (lo.map a.eval) (hi.map a.eval) none).run P w'= .ok (l.toNat,h.toNat,cap) w':=by
 have E:∀(k:IntKind) (i:Int) (y:Nat) (D:BoundsCode),0<=i->i<=y->(Instr.sliceBound (.int k i) y D).run P w'= .ok i.toNat w':=λk i y D O T=>by
  simp[Instr.sliceBound,asIntOf,O,T]
 rcases V with⟨rfl,rfl⟩|⟨y,k,rfl,J⟩<;>rcases X with⟨rfl,rfl⟩|⟨z,N,rfl,M⟩
 ·simp[Instr.sliceBounds]
 ·simp only[Option.map_none,Option.map_some,Instr.sliceBounds,M]
  simp[E N l len _ F (by omega)]
 ·simp only[Option.map_none,Option.map_some,Instr.sliceBounds,J]
  simp[E k h cap _ (by omega) I]
 ·simp only[Option.map_some,Instr.sliceBounds,J,M]
  simp[E k h cap _ (by omega) I,E N l h.toNat _ F (by omega)]
theorem q_sliceS {t:TypeId} {x:Operand} {lo hi:Option Operand} (V:o.op= .slice t x lo hi none) (X:P.underlying t=some .string)
  (E:Sat G τ w) (D:∀j,Rep τ w (env.get j) (a.tmps.getD j undef))
  (h:strX ((SOpd.of x).eval G env) λs=>eC G env 0 (lo.map SOpd.of) λl=>eC G env s.length (hi.map SOpd.of) λh=>0<=l/\l<=h/\h<=s.length/\K (.str ((s.take h.toNat).drop l.toNat))):QOk P τ w o a K:=by
 obtain⟨s,Y,h⟩:=jK (ao E D x) h
 obtain⟨l,h,T⟩:=dP E D h
 obtain⟨m,⟨F,I,J,O⟩,N⟩:=dP E D h
 have M:=λw'=>ke (P:=P) (b:=false) (len:=s.length) (cap:=s.length) F I J (Nat.le_refl _) T N w'
 refine⟨_,.string ⟨⟨(s.take m.toNat).drop l.toNat⟩⟩,O,by simp only[Rep],λw' _=>?_⟩
 have e:(ByteArray.mk (Array.mk s)).extract l.toNat m.toNat=⟨⟨(s.take m.toNat).drop l.toNat⟩⟩:=by
  have:((ByteArray.mk (Array.mk s)).extract l.toNat m.toNat).data=⟨(s.take m.toNat).drop l.toNat⟩:=by
   rw[ByteArray.data_extract]
   apply Array.ext'
   simp[drop_take]
  generalize (ByteArray.mk (Array.mk s)).extract l.toNat m.toNat=b at*
  cases b;simp at this;simp[this]
 simp[execOp,V,Y,Instr.sliceAt,run_underlying X,Instr.slice,iL,M,e]
theorem q_slice {t e:TypeId} {x:Operand} {lo hi:Option Operand} {sz:Nat} (ho:o.op= .slice t x lo hi none) (hu:P.underlying t=some (.slice e)) (hn:bj P e=some sz)
  (J:Sat G τ w) (I:∀j,Rep τ w (env.get j) (a.tmps.getD j undef)) (h:jF G env sz ((SOpd.of x).eval G env) (lo.map SOpd.of) (hi.map SOpd.of) K):QOk P τ w o a K:=by
 have D:=ao (G:=G) J I x
 have run:∀(ad:Option Addr) (n cap:Nat) (l m:Int),a.eval x= .slice ad n cap->n<=cap->0<=l->l<=m->m<=cap->
   ((lo=none/\l=0)\/∃y k,lo=some y/\a.eval y= .int k l)->((hi=none/\m=n)\/∃y k,hi=some y/\a.eval y= .int k m)->
   ∀w',(execOp a.eval o).run P w'= .ok (.value (.slice (if cap=l.toNat then ad else ad.map (·.add (l.toNat*sz))) (m.toNat-l.toNat) (cap-l.toNat))) w':=by
  intro ad n cap l m hv ah N O h2 F E w'
  have hb:=ke (P:=P) (a:=a) (b:=true) (len:=n) (cap:=cap) N O h2 ah F E w'
  simp[execOp,ho,hv,Instr.sliceAt,run_underlying hu,Instr.slice,hb,bv hn]
 have Y:ja ((SOpd.of x).eval G env) (λZ rows=>eC G env 0 (lo.map SOpd.of) λl=>eC G env rows.length (hi.map SOpd.of) λh=>
   sz=Z/\0<=l/\l<=h/\h<=rows.length/\K (.lst sz ((rows.take h.toNat).drop l.toNat)))->QOk P τ w o a K:=by
  intro h
  obtain⟨Z,rows,h,D⟩:=lX D h
  obtain⟨l,h,F⟩:=dP J I h
  obtain⟨m,⟨rfl,N,O,h2,M⟩,E⟩:=dP J I h
  rcases D with⟨D,hr⟩|⟨ad,cap,D,ac,al,hr⟩
  ·subst hr
   simp at h2
   obtain rfl:l=0:=by omega
   obtain rfl:m=0:=by omega
   refine⟨_,.slice none 0 0,M,by simp[Rep],λw' _=>?_⟩
   rw[run none 0 0 0 0 D (by omega) (by omega) (by omega) (by omega) F E w']
   simp
  ·refine⟨_,_,M,?_,λw' _=>run (some ad) rows.length cap l m D ac N O (by omega) F E w'⟩
   simp only[Rep]
   right
   have T:((rows.take m.toNat).drop l.toNat).length=m.toNat-l.toNat:=by simp;omega
   refine⟨if cap=l.toNat then ad else ad.add (l.toNat*sz),cap-l.toNat,?_,by omega,by omega,?_⟩
   ·rw[T];split<;>simp
   ·split
    ·rename_i hc
     have:(rows.take m.toNat).drop l.toNat=[]:=eq_nil_of_length_eq_zero (by omega)
     rw[this];simp only[ar]
    ·exact ar.drop l.toNat (ar.take m.toNat hr)
 unfold jF at h
 split at h
 ·rename_i V
  rw[V]at D
  simp only[Rep]at D
  obtain⟨l,h,F⟩:=dP J I h
  obtain⟨m,⟨rfl,rfl,M⟩,E⟩:=dP J I h
  refine⟨_,.slice none 0 0,M,by simp[Rep],λw' _=>?_⟩
  rw[run none 0 0 0 0 D (by omega) (by omega) (by omega) (by omega) F E w']
  simp
 ·rename_i b off len cap X
  rw[X]at D
  simp only[Rep]at D
  obtain⟨l,h,F⟩:=dP J I h
  obtain⟨m,⟨N,O,h2,h3,h4,M⟩,E⟩:=dP J I h
  refine⟨_,.slice (some ⟨b,off+l.toNat*sz,none⟩) (m.toNat-l.toNat) (cap-l.toNat),M,by simp only[Rep],λw' _=>?_⟩
  rw[run (some ⟨b,off,none⟩) len cap l m D h3 N O (by omega) F E w']
  rw[if_neg (show ¬cap=l.toNat by omega)]
  simp[add_lit]
 ·exact Y h
theorem q_extract {x:Operand} {i:Nat} (O:o.op= .extract x i) (I:Sat G τ w) (F:∀j,Rep τ w (env.get j) (a.tmps.getD j undef)) (h:tupX i ((SOpd.of x).eval G env) K):QOk P τ w o a K:=by
 have D:=ao (G:=G) I F x
 unfold tupX at h
 split at h
 ·rename_i cs J
  rw[J]at D
  simp only[Rep]at D
  obtain⟨vs,T,E⟩:=D
  have N:=E.length
  have hi:i<vs.size:=by simp at N;omega
  have M:=E.get i h.1 (by simpa using hi)
  refine⟨_,vs[i],h.2,?_,λw' _=>?_⟩
  ·simpa[getD_eq_getElem?_getD,h.1]using M
  ·simp[execOp,O,T,Instr.extract,hi]
 ·exact h.elim
theorem q_not {t:TypeId} {x:Operand} (J:o.op= .unOp .not t x) (F:Sat G τ w) (E:∀j,Rep τ w (env.get j) (a.tmps.getD j undef)) (h:gX ((SOpd.of x).eval G env) λb=>K (.bool (!b))):QOk P τ w o a K:=by
 have D:=ao (G:=G) F E x
 unfold gX at h
 split at h
 ·rename_i b I
  rw[I]at D
  simp only[Rep]at D
  exact⟨_,.bool (!b),h,by simp only[Rep],λw' _=>by simp[execOp,J,D,Op.unary]⟩
 ·exact h.elim
theorem q_conv {s d:TypeId} {x:Operand} {k j:IntKind} (M:o.op= .convert s d x) (N:P.underlying s=some (.int j)) (I:P.underlying d=some (.int k))
  (F:Sat G τ w) (E:∀j,Rep τ w (env.get j) (a.tmps.getD j undef)) (h:convX k ((SOpd.of x).eval G env) K):QOk P τ w o a K:=by
 have D:=ao (G:=G) F E x
 unfold convX at h
 split at h
 ·rename_i O n J
  rw[J]at D
  simp only[Rep]at D
  exact⟨_,.int k (k.wrap n),h,by simp only[Rep],λw' _=>by simp[execOp,M,D,convert,run_underlying N,run_underlying I,Conv.intToInt]⟩
 ·exact h.elim
theorem q_str {s d:TypeId} {x:Operand} (J:o.op= .convert s d x) (M:P.underlying s=some .string) (F:P.underlying d=some .string)
  (E:Sat G τ w) (D:∀j,Rep τ w (env.get j) (a.tmps.getD j undef)) (h:strX ((SOpd.of x).eval G env) λs=>K (.str s)):QOk P τ w o a K:=by
 obtain⟨l,N,I⟩:=jK (ao E D x) h
 exact⟨_,.string ⟨⟨l⟩⟩,I,by simp only[Rep],λw' _=>by simp[execOp,J,N,convert,run_underlying M,run_underlying F]⟩
theorem q_lenS {t:TypeId} {x:Operand} (I:o.op= .call {callee:=.builtin .len,args:=#[x],argTypes:=#[t]}) (J:P.underlying t=some .string)
  (E:Sat G τ w) (D:∀j,Rep τ w (env.get j) (a.tmps.getD j undef)) (h:strX ((SOpd.of x).eval G env) λs=>K (.int .i64 s.length)):QOk P τ w o a K:=by
 obtain⟨s,M,F⟩:=jK (ao E D x) h
 exact⟨_,.int .i64 s.length,F,by simp only[Rep],λw' _=>by simp[execOp,I,resolve,invoke,builtin,M,Builtin.len_,run_underlying J,goInt,iL]⟩
theorem q_len {t e:TypeId} {x:Operand} (M:o.op= .call {callee:=.builtin .len,args:=#[x],argTypes:=#[t]}) (O:P.underlying t=some (.slice e))
  (J:Sat G τ w) (I:∀j,Rep τ w (env.get j) (a.tmps.getD j undef)) (h:lenX ((SOpd.of x).eval G env) K):QOk P τ w o a K:=by
 have D:=ao (G:=G) J I x
 have E:∀ad n c,a.eval x= .slice ad n c->∀w',(execOp a.eval o).run P w'= .ok (.value (.int .i64 n)) w':=by
  intro ad n c T w'
  simp[execOp,M,resolve,invoke,builtin,T,Builtin.len_,run_underlying O,goInt]
 unfold lenX at h
 split at h
 ·rename_i sz rows F
  rw[F]at D
  simp only[Rep]at D
  rcases D with⟨D,N⟩|⟨ad,cap,D,_⟩
  ·exact⟨_,.int .i64 rows.length,h,by simp only[Rep],λw' _=>by rw[E _ _ _ D,N];rfl⟩
  ·exact⟨_,.int .i64 rows.length,h,by simp only[Rep],λw' _=>E _ _ _ D w'⟩
 ·rename_i g e sz rows F
  rw[F]at D
  cases g with
  |none=>
   simp only[Rep]at D
   exact⟨_,.int .i64 rows.length,h,by simp only[Rep],λw' _=>by rw[E _ _ _ D.1,D.2];rfl⟩
  |some b=>
   simp only[Rep]at D
   obtain⟨cap,D,_⟩:=D
   exact⟨_,.int .i64 rows.length,h,by simp only[Rep],λw' _=>E _ _ _ D w'⟩
 ·rename_i F
  rw[F]at D
  simp only[Rep]at D
  exact⟨_,.int .i64 0,h,by simp only[Rep],λw' _=>E _ _ _ D w'⟩
 ·rename_i r n c F
  rw[F]at D
  simp only[Rep]at D
  exact⟨_,.int .i64 n,h,by simp only[Rep],λw' _=>E _ _ _ D w'⟩
 ·exact h.elim
theorem q_mkI {t:TypeId} {x:Operand} {d:TypeDesc} (M:o.op= .makeInterface t x) (N:P.underlying t=some d) (I:∀m,d≠ .interface m) (F:Sat G τ w) (E:∀j,Rep τ w (env.get j) (a.tmps.getD j undef))
  (h:scX ((SOpd.of x).eval G env) λv=>K (.sc (.iface t v))):QOk P τ w o a K:=by
 have D:=ao (G:=G) F E x
 unfold scX at h
 split at h
 ·rename_i v J
  rw[J]at D
  simp only[Rep]at D
  refine⟨_,.iface t v,h,by simp only[Rep],λw' _=>?_⟩
  cases d<;>first
   |exact absurd rfl (I _)
   |simp[execOp,M,D,Instr.makeInterface,run_underlying N]
 ·exact h.elim
end
end Go.Av
