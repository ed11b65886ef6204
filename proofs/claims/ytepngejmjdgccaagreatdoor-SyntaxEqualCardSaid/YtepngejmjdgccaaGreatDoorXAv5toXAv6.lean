/-
  ABSTRACT VALUES, 5: weaker states; calls by what the callee does.
-/
import Derived.Test.YtepngejmjdgccaaGreatDoorXAv4
import Derived.Deep.Quiet
import Derived.OrdersHeld
namespace Go.Av
open Go Go.RowKit
set_option linter.unusedSimpArgs false
set_option linter.unusedVariables false
theorem Rep.ofOne (σ:Store) (w:World) (v:Value):Rep σ w (AV.ofOne v) v:=by
 cases v<;>first
  |(simp only[AV.ofOne,Rep];done)
  |skip
 case slice a n c=>
  cases a<;>cases n<;>cases c<;>simp only[AV.ofOne,Rep]
theorem RepL.ofOnes (σ:Store) (w:World):∀vs:List Value,RepL σ w (vs.map AV.ofOne) vs
 |[]=>by simp[RepL]
 |v::vs=>by simp only[List.map_cons,RepL];exact⟨v,vs,rfl,Rep.ofOne σ w v,RepL.ofOnes σ w vs⟩
theorem Rep.ofValue (σ:Store) (w:World) (v:Value):Rep σ w (AV.ofValue v) v:=by
 cases v with
 |agg cs=>
  simp only[AV.ofValue]
  split
  ·rename_i h
   simp only[Rep]
   exact⟨cs,rfl,λv hv=>List.all_eq_true.1 h v hv,RepL.ofOnes σ w _⟩
  ·simp only[Rep]
 |_=>simp only[AV.ofValue];exact Rep.ofOne σ w _
theorem RepL.ofValues (σ:Store) (w:World):∀vs:List Value,RepL σ w (vs.map AV.ofValue) vs
 |[]=>by simp[RepL]
 |v::vs=>by simp only[List.map_cons,RepL];exact⟨v,vs,rfl,Rep.ofValue σ w v,RepL.ofValues σ w vs⟩
theorem AVle.rfl' (x:AV):AVle x x:=Or.inl (Or.inl rfl)
theorem AVleA.rfl':∀xs:List AV,AVleA xs xs
 |[]=>trivial
 |x::xs=>⟨AVle.rfl' x,AVleA.rfl' xs⟩
theorem AVle1.rep {σ:Store} {w:World} {x y:AV} (h:AVle1 x y) {u:Value} (hr:Rep σ w x u):Rep σ w y u:=by
 rcases h with rfl|h
 ·exact hr
 ·cases y with
  |any=>simp only[Rep]
  |lst sz' r'=>
   cases x with
   |own b e sz r=>
    obtain⟨rfl,rfl⟩:=h
    cases b with
    |none=>simp only[Rep]at*;exact .inl hr
    |some b=>
     simp only[Rep]at*
     obtain⟨cap,h1,h2,h3,h4,h5⟩:=hr
     exact .inr ⟨_,cap,h1,h2,h3,h5⟩
   |nil=>
    have h:r'=[]:=h
    simp only[Rep]at*
    exact .inl ⟨hr,h⟩
   |_=>exact h.elim
  |own g e sz r=>
   cases x with
   |nil=>
    obtain⟨rfl,rfl⟩:=h
    simp only[Rep]at*
    exact⟨hr,trivial⟩
   |_=>exact h.elim
  |nil=>
   cases x with
   |own g e sz r=>
    have h:g=none:=h
    subst h
    simp only[Rep]at*
    exact hr.1
   |_=>exact h.elim
  |sc v=>
   cases x with
   |nil=>
    have h:v= .slice none 0 0:=h
    subst h
    simp only[Rep]at*
    exact hr
   |_=>exact h.elim
  |_=>cases x<;>exact h.elim
theorem AVleL.rep {σ:Store} {w:World}:∀{xs ys:List AV},AVleL xs ys->∀{us:List Value},RepL σ w xs us->RepL σ w ys us
 |[],[],_,us,h=>h
 |x::xs,y::ys,hl,us,h=>by
  simp only[RepL]at*
  obtain⟨u,us',rfl,h2,h3⟩:=h
  exact⟨u,us',rfl,hl.1.rep h2,AVleL.rep hl.2 h3⟩
 |[],_::_,h,_,_=>h.elim
 |_::_,[],h,_,_=>h.elim
theorem AVle.rep {σ:Store} {w:World} {x y:AV} (h:AVle x y) {u:Value} (hr:Rep σ w x u):Rep σ w y u:=by
 rcases h with h|h
 ·exact h.rep hr
 ·cases x<;>cases y<;>first
   |exact h.elim
   |skip
  ·simp only[Rep]at*
   obtain⟨vs,h1,h2,h3⟩:=hr
   exact⟨vs,h1,h2,AVleL.rep h h3⟩
  ·simp only[Rep]at*
   obtain⟨vs,h1,h3⟩:=hr
   exact⟨vs,h1,AVleL.rep h h3⟩
theorem AVleA.rep {σ:Store} {w:World}:∀{xs ys:List AV},AVleA xs ys->∀{us:List Value},RepL σ w xs us->RepL σ w ys us
 |[],[],_,us,h=>h
 |x::xs,y::ys,hl,us,h=>by
  simp only[RepL]at*
  obtain⟨u,us',rfl,h2,h3⟩:=h
  exact⟨u,us',rfl,hl.1.rep h2,AVleA.rep hl.2 h3⟩
 |[],_::_,h,_,_=>h.elim
 |_::_,[],h,_,_=>h.elim
/-! ### weaker states -/
def EnvLe (env:Env):Env->Prop
 |[]=>True
 |(k,x)::e=>AVle (env.get k) x/\EnvLe env e
theorem EnvLe.get {env:Env}:∀{env':Env},EnvLe env env'->∀j,env'.get j= .any\/AVle (env.get j) (env'.get j)
 |[],_,j=>.inl rfl
 |(k,x)::e,h,j=>by
  simp only[Env.get]
  by_cases hk:k=j
  ·subst hk;rw[if_pos rfl];exact .inr h.1
  ·rw[if_neg hk];exact EnvLe.get h.2 j
def SubN (σ' σ:Store):Prop:=Sub σ' σ/\(σ.keys.Nodup->σ'.keys.Nodup)
theorem SubN.refl (σ:Store):SubN σ σ:=⟨λ_ h=>h,λh=>h⟩
theorem SubN.nil (σ:Store):SubN [] σ:=⟨λ_ h=>by simp at h,λ_=>by simp[Store.keys]⟩
theorem Sat.subN {G:Glob} {σ σ' ρ:Store} {w:World} (h:Sat G (σ++ρ) w) (hs:SubN σ' σ):Sat G (σ'++ρ) w:=by
 have h0:=h.nodup
 rw[keys_append]at h0
 obtain⟨n1,n2,n3⟩:=List.nodup_append.1 h0
 refine h.sub (λp hp=>?_) ?_
 ·rcases List.mem_append.1 hp with hp|hp
  ·exact List.mem_append.2 (.inl (hs.1 p hp))
  ·exact List.mem_append.2 (.inr hp)
 ·rw[keys_append]
  exact List.nodup_append.2 ⟨hs.2 n1,n2,λa ha b hb=>n3 a (keys_sub hs.1 ha) b hb⟩
theorem Weak.of {G:Glob} {env env':Env} {σ σ':Store} (he:EnvLe env env') (hs:SubN σ' σ):Weak G env σ env' σ':=by
 intro ρ w tmps hS hE
 refine⟨hS.subN hs,Ev.of_sub hs.1 w,λj=>?_⟩
 rcases he.get j with h|h
 ·rw[h];simp only[Rep]
 ·exact h.rep (Rep.ev (Ev.of_sub hs.1 w) _ _ (hE j))
theorem Weak.rfl' {G:Glob} (env:Env) (σ:Store):Weak G env σ env σ:=λ_ w _ hS hE=>⟨hS,Ev.refl σ w,hE⟩
/-! ### calls -/
theorem FnSpec.v {G:Glob} {P:Program} {k:FuncId} {args:List AV} {σ:Store} {R:AV->Store->Prop} (h:FnSpec G P k args σ R):VSpec G P (.func (.func k) #[] #[]) args σ R:=
 ⟨k,#[],#[],rfl,by simpa using h⟩
def Pure (G:Glob) (P:Program) (k:FuncId) (args:List AV) (r:AV):Prop:=FnSpec G P k args [] λx σ=>x=r/\σ=[]
def VPure (G:Glob) (P:Program) (f:Value) (args:List AV) (r:AV):Prop:=VSpec G P f args [] λx σ=>x=r/\σ=[]
theorem Pure.v {G:Glob} {P:Program} {k:FuncId} {args:List AV} {r:AV} (h:Pure G P k args r):VPure G P (.func (.func k) #[] #[]) args r:=FnSpec.v h
theorem CALL_spec {G:Glob} {P:Program} {f:Value} {args:List AV} {σ:Store} {K:AV->Store->Prop} {t:Tag K} {R:AV->Store->Prop} {args':List AV} (σf σr:Store)
  (h:VSpec G P f args' σf R) (ha:AVleA args args') (hs:SubN (σf++σr) σ) (hk:∀r σ',R r σ'->K r (σ'++σr)):CALL G P f args σ K t:=
 ⟨R,σf,σr,args',.inl h,ha,hs.1,hs.2,λr σ' h1 _=>hk r σ' h1⟩
theorem CALL_vpure {G:Glob} {P:Program} {f:Value} {args:List AV} {σ:Store} {K:AV->Store->Prop} {t:Tag K} {r:AV}
  (h:VPure G P f args r) (hk:K r σ):CALL G P f args σ K t:=
 CALL_spec [] σ h (AVleA.rfl' _) (SubN.refl _) (by rintro _ _ ⟨rfl,rfl⟩;exact hk)
theorem CALL_pure {G:Glob} {P:Program} {k:FuncId} {args:List AV} {σ:Store} {K:AV->Store->Prop} {t:Tag K} {r:AV}
  (h:Pure G P k args r) (hk:K r σ):CALL G P (.func (.func k) #[] #[]) args σ K t:=CALL_vpure h.v hk
/-! ### a callee's contract, weakened -/
theorem FnSpec.mono {G:Glob} {P:Program} {k:FuncId} {args:List AV} {σ:Store} {R R':AV->Store->Prop} (h:FnSpec G P k args σ R) (hr:∀r σ',R r σ'->R' r σ'):FnSpec G P k args σ R':=
 ⟨h.1,λρ w vs hS hA=>(h.2 ρ w vs hS hA).mono λ_ _ ⟨v,r,σ',he,hR,rest⟩=>⟨v,r,σ',he,hr _ _ hR,rest⟩⟩
def SOpd.of:Operand->SOpd
 | .tmp i=>.t i
 | .const v=>.c (AV.ofValue v)
 | .func i=>.f i
 | .global i=>.g i
def aggD:TypeDesc->Bool
 | .struct _| .array _ _=>true
 |_=>false
section
variable (P:Program)
def sizeT (t:TypeId):Option Nat:=(P.info? t).map (·.size)
def zeroT (t:TypeId):Option (List AV):=
 match (P.info? t).bind (·.zero)with
 |some z=>if z.cells.toList.all (·.oneCell')then some (z.cells.toList.map AV.ofOne)else none
 |none=>none
def flatFs (ft:TypeId->Option (List Nat)):List Field->Nat->Option (List Nat)
 |[],_=>some []
 |f::fs,o=>if f.name== "_" ||f.offset != o then none else match ft f.type with
  |some ks=>match flatFs ft fs (o+ks.length)with
   |some ks'=>some (ks++ks')
   |none=>none
  |none=>none
def flatT:Nat->TypeId->Option (List Nat)
 |0,_=>none
 |d+1,t=>
  match P.underlying t with
  |some .bool=>some [0]
  |some (.int _)=>some [1]
  |some .string=>some [2]
  |some (.struct fs)=>if P.stoodInHeld t then none else match flatFs (flatT d) fs.toList 0 with
    |some ks=>if sizeT P t==some ks.length then some ks else none
    |none=>none
  |_=>none
def nilKind (d:TypeDesc) (y:Operand):Option Nat:=
 match d,y with
 | .slice _,.const (.slice none 0 0)=>some 0
 | .map _ _,.const (.map none)=>some 1
 | .func _ _ _,.const .nilFunc=>some 2
 | .pointer _,.const (.pointer none)=>some 3
 |_,_=>none
def transBuiltin:Builtin->List Operand->List TypeId->Option SOp
 | .len,[x],[t]=>match P.underlying t with
  |some .string=>some (.lenS (SOpd.of x))
  |some (.slice _)=>some (.len (SOpd.of x))
  |_=>none
 | .append,[x,y],[t,t']=>match P.underlying t,P.underlying t' with
  |some (.slice e),some (.slice _)=>match P.info? e,zeroT P e with
   |some i,some z=>if z.length==i.size&&i.size != 0&&i.bytes != 0 then some (.append e i.size i.bytes (SOpd.of x) (SOpd.of y))else none
   |_,_=>none
  |_,_=>none
 |_,_,_=>none
def isNumOp:BinOp->Bool
 | .add| .sub| .mul| .quo| .rem| .eql| .neq| .lss| .leq| .gtr| .geq=>true
 |_=>false
def isStrOp:BinOp->Bool
 | .add| .eql| .neq| .lss| .leq| .gtr| .geq=>true
 |_=>false
def eqNeg:BinOp->Option Bool
 | .eql=>some false
 | .neq=>some true
 |_=>none
def transBin (op:BinOp) (t:TypeId) (x y:Operand):Option SOp:=
 match P.underlying t with
 |some (.int _)=>if isNumOp op then some (.bin op (SOpd.of x) (SOpd.of y))else none
 |some .string=>if isStrOp op then some (.bin op (SOpd.of x) (SOpd.of y))else none
 |some .bool=>(eqNeg op).map λn=>.eqb n (SOpd.of x) (SOpd.of y)
 |some (.struct _)=>match flatT P 8 t with
  |some ks=>if P.eqGuardType P.depth t then none else (eqNeg op).map λn=>.eqs n ks (SOpd.of x) (SOpd.of y)
  |none=>none
 |some d=>match nilKind d y with
  |some k=>(eqNeg op).map λn=>.eqnil k n (SOpd.of x)
  |none=>none
 |none=>none
def transLoad (t:TypeId) (x:Operand):Option SOp:=
 match P.underlying t,sizeT P t with
 |some d,some n=>if aggD d||n==1 then some (.load (aggD d) n (SOpd.of x))else none
 |_,_=>none
def transBuild (t:TypeId) (parts:Array (Nat×Operand)):Option SOp:=
 match P.underlying t,zeroT P t with
 |some (.struct fs),some z=>if !(fs.toList.all λf=>(P.info? f.type).isSome)then none else (parts.toList.mapM λ(p:Nat×Operand)=>match fs[p.1]? with
   |some f=>(sizeT P f.type).map λn=>(f.offset,n,SOpd.of p.2)
   |none=>none).map (.build z ·)
 |_,_=>none
def transFieldA (t:TypeId) (x:Operand) (i:Nat):Option SOp:=
 match P.underlying t with
 |some (.struct fs)=>match fs[i]? with
  |some f=>match sizeT P f.type with
   |some (_+1)=>some (.fieldA f.offset (SOpd.of x))
   |_=>none
  |none=>none
 |_=>none
def transIndexA (t:TypeId) (x i:Operand):Option SOp:=
 match P.underlying t with
 |some (.slice e)=>(sizeT P e).map (.indexA · (SOpd.of x) (SOpd.of i))
 |some (.array len e)=>(sizeT P e).map (.indexP len · (SOpd.of x) (SOpd.of i))
 |_=>none
def transIndex (t:TypeId) (x i:Operand):Option SOp:=
 match P.underlying t with
 |some .string=>some (.index (SOpd.of x) (SOpd.of i))
 |_=>none
def transSlice (t:TypeId) (x:Operand) (lo hi:Option Operand):Option SOp:=
 match P.underlying t with
 |some (.slice e)=>(sizeT P e).map (.slice · (SOpd.of x) (lo.map SOpd.of) (hi.map SOpd.of))
 |some .string=>some (.sliceS (SOpd.of x) (lo.map SOpd.of) (hi.map SOpd.of))
 |_=>none
def transField (t:TypeId) (x:Operand) (i:Nat):Option SOp:=
 match P.underlying t with
 |some (.struct fs)=>match fs[i]? with
  |some f=>match P.underlying f.type,sizeT P f.type with
   |some d,some n=>if aggD d||n==1 then some (.field (aggD d) f.offset n (SOpd.of x))else none
   |_,_=>none
  |none=>none
 |_=>none
def transConv (src dst:TypeId) (x:Operand):Option SOp:=
 match P.underlying src,P.underlying dst with
 |some (.int _),some (.int k)=>some (.conv k (SOpd.of x))
 |some .string,some .string=>some (.str (SOpd.of x))
 |_,_=>none
def transBuildS (t:TypeId) (len:Nat) (parts:Array (Nat×Operand)):Option SOp:=
 match P.underlying t with
 |some (.slice e)=>match sizeT P e,zeroT P e with
  |some n,some z=>if z.length==n&&n != 0&&decide (len*n<=16777216)then some (.buildS e n len (List.replicate len z).flatten (parts.toList.map λ(p:Nat×Operand)=>(p.1,SOpd.of p.2)))else none
  |_,_=>none
 |_=>none
def transMkI (t:TypeId) (x:Operand):Option SOp:=
 match P.underlying t with
 |some (.interface _)=>none
 |some _=>some (.mkI t (SOpd.of x))
 |none=>none
def transOp:Op->Option SOp
 | .move x=>some (.mov (SOpd.of x))
 | .assign x=>some (.mov (SOpd.of x))
 | .pick c a b=>some (.pick (SOpd.of c) (SOpd.of a) (SOpd.of b))
 | .nilCheck x=>some (.nilCheck (SOpd.of x))
 | .load t x=>transLoad P t x
 | .build t parts=>transBuild P t parts
 | .fieldAddr t x i=>transFieldA P t x i
 | .indexAddr t x i=>transIndexA P t x i
 | .index t x i=>transIndex P t x i
 | .slice t x lo hi mx=>if mx.isSome then none else transSlice P t x lo hi
 | .field t x i=>transField P t x i
 | .extract x i=>some (.extract i (SOpd.of x))
 | .binOp op t x y _=>transBin P op t x y
 | .unOp op _ x=>match op with
  | .not=>some (.not (SOpd.of x))
  |_=>none
 | .convert src dst x=>transConv P src dst x
 | .makeFunc fn first cap=>some (.mkfun fn (first.toList.map SOpd.of) (cap.toList.map SOpd.of))
 | .alloc e=>(zeroT P e).map (.alloc e ·)
 | .box e x=>(sizeT P e).map (.box e · (SOpd.of x))
 | .buildSlice t len parts=>transBuildS P t len parts
 | .store t a x=>(sizeT P t).map (.store · (SOpd.of a) (SOpd.of x))
 | .call c=>match c.callee with
  | .builtin b=>transBuiltin P b c.args.toList c.argTypes.toList
  | .value f=>some (.call (SOpd.of f) (c.args.toList.map SOpd.of))
  | .invoke r name=>some (.invoke (SOpd.of r) name (c.args.toList.map SOpd.of))
 | .makeInterface t x=>transMkI P t x
 |_=>none
def transGuard (ops:Array Oper):Option (Nat×Bool)->Option (Option (Nat×Bool))
 |none=>some none
 |some (j,b)=>((ops[j]?).bind (·.dst)).map λd=>some (d,b)
def transDst (n:Nat):Option Nat->Bool
 |none=>true
 |some d=>decide (d<n)
def roBox (ro:Nat->Bool) (o:Oper) (so:SOp):SOp:=
 match o.op,o.dst with
 | .box e x,some d=>if ro d then (match sizeT P e with
  |some m=>.boxR m (SOpd.of x)
  |none=>so)else so
 |_,some d=>if ro (1000000+d)then .raw o.op else so
 |_,_=>so
def transOper (n:Nat) (ro:Nat->Bool) (ops:Array Oper) (o:Oper):Option SOper:=
 match transGuard ops o.guard,transDst n o.dst with
 |some g,true=>some ⟨o.dst,g,roBox P ro o ((transOp P o.op).getD (.raw o.op))⟩
 |_,_=>none
def transOps (n:Nat) (ro:Nat->Bool) (ops:Array Oper):List Oper->Option (List SOper)
 |[]=>some []
 |o::rest=>match transOper P n ro ops o,transOps n ro ops rest with
  |some so,some sos=>some (so::sos)
  |_,_=>none
def slotsOf (d:Option Nat) (good:List Nat) (keep:Bool):List Nat:=
 match d with
 |none=>good
 |some d=>if keep then d::good else good.filter λj=>!(j==d)
def hoistAt (n:Nat) (ro:Nat->Bool) (ops:Array Oper) (listed:Array Bool) (good:List Nat) (i:Nat):Option (Nat×SOper×List Nat):=
 match ops[i]? with
 |none=>none
 |some o=>match transOper P n ro ops o with
  |none=>none
  |some so=>if Region.free .any ops listed i then
    match o.op with
    | .fieldAddr _ (.tmp p) _=>if so.op.slot then some (i,so,slotsOf o.dst good (good.contains p))else none
    | .load t (.tmp p)=>if good.contains p then
      match P.underlying t,sizeT P t with
      |some d,some m=>if aggD d||m==1 then some (i,{so with op:=.loadF (aggD d) m (.t p)},slotsOf o.dst good false)else none
      |_,_=>none
     else none
    |_=>if so.op.slot then some (i,so,slotsOf o.dst good false)else none
   else none
def drawH (n:Nat) (ro:Nat->Bool) (ops:Array Oper):Nat->Array Bool->List Nat->Option (List SOper)
 |0,listed,_=>if (Region.ready .any ops listed).isEmpty then some []else none
 |f+1,listed,good=>
  if (Region.ready .any ops listed).isEmpty then some []else
  match (Region.ready .any ops listed).findSome? (hoistAt P n ro ops listed good)with
  |some (i,so,good')=>(drawH n ro ops f (listed.setIfInBounds i true) good').map (so:: ·)
  |none=>match Region.ready .any ops listed with
   |[i]=>match (ops[i]?).bind (transOper P n ro ops)with
    |some so=>(drawH n ro ops f (listed.setIfInBounds i true) (slotsOf so.dst good false)).map (so:: ·)
    |none=>none
   |_=>none
def allD:List (Option DT)->Option DT
 |[]=>none
 |x::xs=>match xs with
  |[]=>x
  |_::_=>match x,allD xs with
   |some a,some b=>some (.both a b)
   |_,_=>none
def drawD (n:Nat) (ro:Nat->Bool) (ops:Array Oper):Nat->Array Bool->List Nat->Option DT
 |0,listed,_=>if (Region.ready .any ops listed).isEmpty then some .done else none
 |f+1,listed,good=>
  if (Region.ready .any ops listed).isEmpty then some .done else
  match (Region.ready .any ops listed).findSome? (hoistAt P n ro ops listed good)with
  |some (i,so,good')=>(drawD n ro ops f (listed.setIfInBounds i true) good').map (.step so ·)
  |none=>allD ((Region.ready .any ops listed).map λi=>match (ops[i]?).bind (transOper P n ro ops)with
   |some so=>(drawD n ro ops f (listed.setIfInBounds i true) (slotsOf so.dst good false)).map (.step so ·)
   |none=>none)
def quietOp:SOp->Bool
 | .call _ _| .invoke _ _ _| .alloc _ _| .box _ _ _| .boxR _ _| .buildS _ _ _ _ _| .store _ _ _| .append _ _ _ _ _| .raw _=>false
 |_=>true
def rootsOf (ro:Nat->Bool) (ops:List Oper):List Nat:=
 (ops.flatMap λo=>o.op.operands.toList.flatMap λx=>match x with
  | .tmp t=>if ro t&& !(ops.any λo'=>o'.dst==some t)then [t]else []
  |_=>[]).eraseDups
def drawSeq (ops:Array Oper):List SOper->Nat->Array Bool->Bool
 |[],_,listed=>(Region.ready .any ops listed).isEmpty
 |so::l,k,listed=>((so.op.slot&&(Region.free .any ops listed k&&(Region.ready .any ops listed).contains k))||Region.ready .any ops listed==[k])&&drawSeq ops l (k+1) (listed.setIfInBounds k true)
def trans (n:Nat) (keep:Nat->List Nat×Bool):Code->Option SCode
 | .skip=>some .skip
 | .region id ops false=>(transOps P n (λd=>(keep (2000000+d)).2) ops ops.toList).map λsos=>if (keep id).2 then .ghost sos (keep id).1 else .region sos (keep id).1
 | .region id ops true=>(transOps P n (λd=>(keep (2000000+d)).2) ops ops.toList).map λsos=>
   if P.follows .mixedOrders&&(Region.noSelect ops&&drawSeq ops sos 0 (Array.replicate ops.size false))then .drawL sos (keep id).1
   else match (if P.follows .mixedOrders&&Region.noSelect ops then drawH P n (λd=>(keep (2000000+d)).2) ops ops.size (Array.replicate ops.size false) (rootsOf (λd=>(keep (2000000+d)).2) ops.toList)else none)with
   |some sl=>.drawL sl (keep id).1
   |none=>if (P.follows .mixedOrders&&Region.lexB .any ops)&&sos.all (λso=>quietOp so.op)then .draw sos (keep id).1 else
    match (if P.follows .mixedOrders&&Region.noSelect ops then drawD P n (λd=>(keep (2000000+d)).2) ops ops.size (Array.replicate ops.size false) (rootsOf (λd=>(keep (2000000+d)).2) ops.toList)else none)with
    |some t=>.drawT t (keep id).1
    |none=>.bad
 | .seq a b=>match trans n keep a,trans n keep b with
  |some x,some y=>some (.seq x y)
  |_,_=>none
 | .cond c a b=>match trans n keep a,trans n keep b with
  |some x,some y=>some (.cond (SOpd.of c) x y)
  |_,_=>none
 | .block id a=>(trans n keep a).map λx=>.seq (.block id x) (.region [] (keep (id+1000000)).1)
 | .loop a=>(trans n keep a).map .loop
 | .exit id=>some (.exit id)
 | .ret=>some .ret
 |_=>some .bad
end
end Go.Av
