/-
  ABSTRACT VALUES, 3: the small language into which the loaded code is turned, and what a run of it asks.
-/
import Derived.Test.YtjdccoplpljmlaaGreatDoorVXAv1toXAv2
namespace Go.Av
open Go Go.RowKit List
set_option linter.unusedSimpArgs false
set_option linter.unusedVariables false
abbrev Env:=List (Nat×AV)
def Env.get:Env->Nat->AV
 |[],_=>.any
 |(k,x)::e,j=>if k=j then x else Env.get e j
def Env.set:Env->Nat->AV->Env
 |[],j,v=>[(j,v)]
 |(k,x)::e,j,v=>if k=j then (k,v)::e else (k,x)::Env.set e j v
def Env.put (env:Env):Option Nat->AV->Env
 |none,_=>env
 |some d,v=>env.set d v
def Env.keep (ks:List Nat) (env:Env):Env:=env.filter λp=>ks.contains p.1
def Store.get:Store->Nat->Option AObj
 |[],_=>none
 |(k,x)::s,b=>if k=b then some x else Store.get s b
def Store.set:Store->Nat->AObj->Store
 |[],_,_=>[]
 |(k,x)::s,b,y=>if k=b then (k,y)::s else (k,x)::Store.set s b y
def Store.erase:Store->Option Nat->Store
 |s,none=>s
 |s,some b=>s.filter λp=>p.1≠b
def tokS (g:Option Nat) (e:TypeId) (k:Nat):Store:=
 match g with
 |none=>[]
 |some b=>[(b,.tok e k)]
inductive SOpd where
 |t (i:Nat)
 |c (v:AV)
 |f (i:FuncId)
 |g (i:Nat)
 deriving Inhabited
inductive SOp where
 |mov (x:SOpd)
 |pick (c a b:SOpd)
 |nilCheck (x:SOpd)
 |load (agg:Bool) (n:Nat) (x:SOpd)
 |build (zero:List AV) (parts:List (Nat×Nat×SOpd))
 |fieldA (off:Nat) (x:SOpd)
 |indexA (sz:Nat) (x i:SOpd)
 |indexP (len sz:Nat) (x i:SOpd)
 |index (x i:SOpd)
 |slice (sz:Nat) (x:SOpd) (lo hi:Option SOpd)
 |sliceS (x:SOpd) (lo hi:Option SOpd)
 |field (agg:Bool) (off n:Nat) (x:SOpd)
 |extract (i:Nat) (x:SOpd)
 |bin (op:BinOp) (x y:SOpd)
 |eqb (neg:Bool) (x y:SOpd)
 |eqs (neg:Bool) (ks:List Nat) (x y:SOpd)
 |eqnil (kind:Nat) (neg:Bool) (x:SOpd)
 |not (x:SOpd)
 |conv (k:IntKind) (x:SOpd)
 |str (x:SOpd)
 |len (x:SOpd)
 |lenS (x:SOpd)
 |mkfun (fn:Fn) (first cap:List SOpd)
 |alloc (e:TypeId) (zero:List AV)
 |box (e:TypeId) (n:Nat) (x:SOpd)
 |boxR (n:Nat) (x:SOpd)
 |loadF (agg:Bool) (n:Nat) (x:SOpd)
 |buildS (e:TypeId) (sz len:Nat) (zero:List AV) (parts:List (Nat×SOpd))
 |store (n:Nat) (x y:SOpd)
 |append (e:TypeId) (sz bytes:Nat) (x y:SOpd)
 |call (f:SOpd) (args:List SOpd)
 |invoke (x:SOpd) (name:String) (args:List SOpd)
 |mkI (t:TypeId) (x:SOpd)
 |raw (op:Op)
 |bad
 deriving Inhabited
def SOp.slot:SOp->Bool
 | .mov _| .pick _ _ _| .nilCheck _| .build _ _| .fieldA _ _| .indexA _ _ _| .indexP _ _ _ _| .index _ _| .slice _ _ _ _| .sliceS _ _ _| .field _ _ _ _| .extract _ _| .bin _ _ _| .eqb _ _ _
 | .eqs _ _ _ _| .eqnil _ _ _| .not _| .conv _ _| .str _| .len _| .lenS _| .mkfun _ _ _| .mkI _ _=>true
 |_=>false
structure SOper where
 dst:Option Nat
 guard:Option (Nat×Bool)
 op:SOp
 deriving Inhabited
inductive DT where
 |done
 |step (o:SOper) (t:DT)
 |both (a b:DT)
 deriving Inhabited
inductive SCode where
 |skip
 |region (ops:List SOper) (keep:List Nat)
 |ghost (ops:List SOper) (keep:List Nat)
 |draw (ops:List SOper) (keep:List Nat)
 |drawL (ops:List SOper) (keep:List Nat)
 |drawT (t:DT) (keep:List Nat)
 |seq (a b:SCode)
 |cond (c:SOpd) (a b:SCode)
 |block (id:Nat) (a:SCode)
 |loop (a:SCode)
 |exit (id:Nat)
 |ret
 |bad
 deriving Inhabited
/-! ### what a constant stands for -/
def AV.ofOne:Value->AV
 | .bool b=>.bool b
 | .int k n=>.int k n
 | .string s=>.str s.data.toList
 | .slice none 0 0=>.nil
 |v=>.sc v
def AV.ofValue:Value->AV
 | .agg cs=>if cs.toList.all (·.oneCell')then .agg (cs.toList.map AV.ofOne)else .sc (.agg cs)
 |v=>AV.ofOne v
def aE:AV:=.tup []
section
variable (G:Glob)
def SOpd.eval (env:Env):SOpd->AV
 | .t i=>env.get i
 | .c v=>v
 | .f i=>.sc (.func (.func i) #[] #[])
 | .g i=>match G.tab i with
  |some cs=>.ref cs
  |none=>.sc (.pointer (some ⟨i,0,none⟩))
def AV.cells?:AV->Option (List AV)
 | .agg cs=>some cs
 | .any| .tup _=>none
 | .sc v=>if v.oneCell' then some [.sc v]else none
 |x=>some [x]
def splice:List AV->Nat->List AV->List AV
 |l,0,c=>c++l.drop c.length
 |[],_+1,_=>[]
 |x::l,o+1,c=>x::splice l o c
def bQ (x:AV) (K:List AV->Prop):Prop:=
 match AV.cells? x with
 |some c=>K c
 |none=>False
def fR (env:Env):List AV->List (Nat×Nat×SOpd)->(List AV->Prop)->Prop
 |cells,[],K=>K cells
 |cells,(off,n,x)::rest,K=>bQ (x.eval G env) λc=>c.length=n/\off+n<=cells.length/\fR env (splice cells off c) rest K
def el (op:BinOp) (x y:AV) (K:AV->Prop):Prop:=
 match x,y with
 | .int k a,.int k' b=>k=k'/\
  match op with
  | .add=>K (.int k (k.wrap (a+b)))
  | .sub=>K (.int k (k.wrap (a-b)))
  | .mul=>K (.int k (k.wrap (a*b)))
  | .quo=>b≠0/\K (.int k (k.wrap (a.tdiv b)))
  | .rem=>b≠0/\K (.int k (a.tmod b))
  | .eql=>K (.bool (decide (a=b)))
  | .neq=>K (.bool (decide (a≠b)))
  | .lss=>K (.bool (decide (a<b)))
  | .leq=>K (.bool (decide (a<=b)))
  | .gtr=>K (.bool (decide (b<a)))
  | .geq=>K (.bool (decide (b<=a)))
  |_=>False
 | .str a,.str b=>
  match op with
  | .add=>a.length+b.length<9223372036854775808/\K (.str (a++b))
  | .eql=>K (.bool (decide (a=b)))
  | .neq=>K (.bool (decide (a≠b)))
  | .lss=>K (.bool (Op.bytesLess a b))
  | .leq=>K (.bool (Op.bytesLess a b||decide (a=b)))
  | .gtr=>K (.bool (!(Op.bytesLess a b||decide (a=b))))
  | .geq=>K (.bool (!Op.bytesLess a b))
  |_=>False
 |_,_=>False
def eqAV:List Nat->List AV->List AV->Option Bool
 |[],[],[]=>some true
 |0::ks,.bool a::xs,.bool b::ys=>(eqAV ks xs ys).map ((a==b)&& ·)
 |1::ks,.int k a::xs,.int k' b::ys=>if k=k' then (eqAV ks xs ys).map (decide (a=b)&& ·)else none
 |2::ks,.str a::xs,.str b::ys=>(eqAV ks xs ys).map (decide (a=b)&& ·)
 |_,_,_=>none
def iY (x:AV) (K:Nat->List (List AV)->Prop):Prop:=
 match x with
 | .lst sz rows=>K sz rows
 | .own _ _ sz rows=>K sz rows
 |_=>False
def en (env:Env) (d:Int) (x:Option SOpd) (K:Int->Prop):Prop:=
 match x with
 |none=>K d
 |some x=>match x.eval G env with
  | .int _ n=>K n
  |_=>False
def jD (env:Env) (sz:Nat) (x:AV) (lo hi:Option SOpd) (K:AV->Prop):Prop:=
 match x with
 | .nil=>en G env 0 lo λl=>en G env 0 hi λh=>l=0/\h=0/\K .nil
 | .sc (.slice (some ⟨b,o,none⟩) len cap)=>en G env 0 lo λl=>en G env len hi λh=>
   0<=l/\l<=h/\h<=len/\len<=cap/\l<cap/\K (.sc (.slice (some ⟨b,o+l.toNat*sz,none⟩) (h.toNat-l.toNat) (cap-l.toNat)))
 |x=>iY x λsz' rows=>en G env 0 lo λl=>en G env rows.length hi λh=>
   sz=sz'/\0<=l/\l<=h/\h<=rows.length/\K (.lst sz ((rows.take h.toNat).drop l.toNat))
def eE (agg:Bool) (n:Nat) (cs:List AV) (K:AV->Prop):Prop:=
 n<=cs.length/\K (if agg then .agg (cs.take n)else cs.headD .any)
def iW (c x y:AV) (K:AV->Prop):Prop:=
 match c with
 | .bool t=>(t=true->K x)/\(t=false->K y)
 |_=>False
def nilAV (x:AV) (K:AV->Prop):Prop:=
 match x with
 | .ref cs=>K (.ref cs)
 | .sc (.pointer (some a))=>K (.sc (.pointer (some a)))
 | .sc (.func (.func k) fs cs)=>K (.sc (.func (.func k) fs cs))
 |_=>False
def gj (x:Option AObj) (K:TypeId->List AV->Prop):Prop:=
 match x with
 |some (.cells e cs)=>K e cs
 |_=>False
def lJ (σ:Store) (agg:Bool) (n:Nat) (x:AV) (K:AV->Prop):Prop:=
 match x with
 | .ref cs=>eE agg n cs K
 | .sc (.pointer (some ⟨b,o,none⟩))=>gj (σ.get b) λ_ cs=>eE agg n (cs.drop o) K
 |_=>False
def refX (x:AV) (K:List AV->Prop):Prop:=
 match x with
 | .ref cs=>K cs
 |_=>False
def cP (off:Nat) (x:AV) (K:AV->Prop):Prop:=
 match x with
 | .ref cs=>K (.ref (cs.drop off))
 | .sc (.pointer (some ⟨b,o,none⟩))=>K (.sc (.pointer (some ⟨b,o+off,none⟩)))
 |_=>False
def intX (x:AV) (K:Int->Prop):Prop:=
 match x with
 | .int _ n=>K n
 |_=>False
def mq (sz:Nat) (x i:AV) (K:AV->Prop):Prop:=
 match x with
 | .sc (.slice (some ⟨b,o,none⟩) len _)=>intX i λn=>0<=n/\n<len/\K (.sc (.pointer (some ⟨b,o+n.toNat*sz,none⟩)))
 |x=>iY x λsz' rows=>sz=sz'/\intX i λn=>0<=n/\n<rows.length/\K (.ref (rows.getD n.toNat []))
def indexPX (len sz:Nat) (x i:AV) (K:AV->Prop):Prop:=
 intX i λn=>0<=n/\n<len/\cP (n.toNat*sz) x K
def strX (x:AV) (K:List UInt8->Prop):Prop:=
 match x with
 | .str s=>K s
 |_=>False
def charX (x i:AV) (K:AV->Prop):Prop:=
 strX x λs=>intX i λn=>0<=n/\n<s.length/\K (.int .u8 (s.getD n.toNat 0).toNat)
def aggX (x:AV) (K:List AV->Prop):Prop:=
 match x with
 | .agg cs=>K cs
 |_=>False
def tupX (i:Nat) (x:AV) (K:AV->Prop):Prop:=
 match x with
 | .tup cs=>i<cs.length/\K (cs.getD i .any)
 |_=>False
def gE (x:AV) (K:Bool->Prop):Prop:=
 match x with
 | .bool b=>K b
 |_=>False
def eqsX (neg:Bool) (ks:List Nat) (xs ys:List AV) (K:AV->Prop):Prop:=
 match eqAV ks xs ys with
 |some r=>K (.bool (if neg then !r else r))
 |none=>False
def gU (kind:Nat) (neg:Bool) (x:AV) (K:AV->Prop):Prop:=
 match kind,x with
 |0,.nil=>K (.bool (!neg))
 |0,.lst _ rows=>∀b,(rows≠[]->b=neg)->K (.bool b)
 |0,.own g _ _ _=>K (.bool (if neg then g.isSome else g.isNone))
 |1,.sc (.map r)=>K (.bool (if neg then r.isSome else r.isNone))
 |2,.sc .nilFunc=>K (.bool (!neg))
 |2,.sc (.func _ _ _)=>K (.bool neg)
 |3,.sc (.pointer r)=>K (.bool (if neg then r.isSome else r.isNone))
 |3,.ref _=>K (.bool neg)
 |_,_=>False
def convX (k:IntKind) (x:AV) (K:AV->Prop):Prop:=
 match x with
 | .int _ n=>K (.int k (k.wrap n))
 |_=>False
def lenX (x:AV) (K:AV->Prop):Prop:=
 match x with
 | .lst _ rows=>K (.int .i64 rows.length)
 | .own _ _ _ rows=>K (.int .i64 rows.length)
 | .nil=>K (.int .i64 0)
 | .sc (.slice _ n _)=>K (.int .i64 n)
 |_=>False
def scX (x:AV) (K:Value->Prop):Prop:=
 match x with
 | .sc v=>K v
 |_=>False
def scsX (env:Env):List SOpd->(List Value->Prop)->Prop
 |[],K=>K []
 |x::xs,K=>scX (x.eval G env) λv=>scsX env xs λvs=>K (v::vs)
def aq (E:SOp) (env:Env) (σ:Store) (K:AV->Prop):Prop:=
 match E with
 | .mov x=>K (x.eval G env)
 | .pick c a b=>iW (c.eval G env) (a.eval G env) (b.eval G env) K
 | .nilCheck x=>nilAV (x.eval G env) K
 | .load agg n x=>lJ σ agg n (x.eval G env) K
 | .loadF agg n x=>refX (x.eval G env) λcs=>eE agg n cs K
 | .build zero parts=>fR G env zero parts λcs=>K (.agg cs)
 | .fieldA off x=>cP off (x.eval G env) K
 | .indexA sz x i=>mq sz (x.eval G env) (i.eval G env) K
 | .indexP len sz x i=>indexPX len sz (x.eval G env) (i.eval G env) K
 | .index x i=>charX (x.eval G env) (i.eval G env) K
 | .slice sz x lo hi=>jD G env sz (x.eval G env) lo hi K
 | .sliceS x lo hi=>strX (x.eval G env) λs=>en G env 0 lo λl=>en G env s.length hi λh=>0<=l/\l<=h/\h<=s.length/\K (.str ((s.take h.toNat).drop l.toNat))
 | .field agg off n x=>aggX (x.eval G env) λcs=>eE agg n (cs.drop off) K
 | .extract i x=>tupX i (x.eval G env) K
 | .bin op x y=>el op (x.eval G env) (y.eval G env) K
 | .eqb neg x y=>gE (x.eval G env) λa=>gE (y.eval G env) λb=>K (.bool (if neg then a != b else a==b))
 | .eqs neg ks x y=>aggX (x.eval G env) λxs=>aggX (y.eval G env) λys=>eqsX neg ks xs ys K
 | .eqnil kind neg x=>gU kind neg (x.eval G env) K
 | .not x=>gE (x.eval G env) λb=>K (.bool (!b))
 | .mkI t x=>scX (x.eval G env) λv=>K (.sc (.iface t v))
 | .conv k x=>convX k (x.eval G env) K
 | .str x=>strX (x.eval G env) λs=>K (.str s)
 | .len x=>lenX (x.eval G env) K
 | .lenS x=>strX (x.eval G env) λs=>K (.int .i64 s.length)
 | .mkfun fn first cap=>scsX G env first λvs=>scsX G env cap λus=>K (.sc (.func fn vs.toArray us.toArray))
 |_=>False
variable (P:Program)
def aj (k:FuncId) (args:List AV) (σ:Store) (R:AV->Store->Prop):Prop:=
 (∃fn,P.funcs[k]? =some fn/\(fn.name== "runtime.NumGoroutine")=false/\fn.body.isNone=false)/\
 ∀(ρ:Store) (w:World) (vs:Array Value),Sat G (σ++ρ) w->RepL (σ++ρ) w args vs.toList->
  Calls P k vs w λe w'=>∃v r σ',e= .returned v/\R r σ'/\Sat G (σ'++ρ) w'/\Ev σ w σ' w'/\Rep (σ'++ρ) w' r v
def cn (f:Value) (args:List AV) (σ:Store) (R:AV->Store->Prop):Prop:=
 ∃k first cap,f= .func (.func k) first cap/\aj G P k (first.toList.map AV.ofValue++args++cap.toList.map AV.ofValue) σ R
def aU (x y:AV):Prop:=
 x=y\/match x,y with
 |_,.any=>True
 | .own _ _ sz r,.lst sz' r'=>sz=sz'/\r=r'
 | .nil,.lst _ r=>r=[]
 | .nil,.own g _ _ r=>g=none/\r=[]
 | .own g _ _ _,.nil=>g=none
 | .nil,.sc v=>v= .slice none 0 0
 |_,_=>False
def br:List AV->List AV->Prop
 |[],[]=>True
 |x::xs,y::ys=>aU x y/\br xs ys
 |_,_=>False
def AVle (x y:AV):Prop:=
 aU x y\/match x,y with
 | .agg xs,.agg ys=>br xs ys
 | .tup xs,.tup ys=>br xs ys
 |_,_=>False
def aA:List AV->List AV->Prop
 |[],[]=>True
 |x::xs,y::ys=>AVle x y/\aA xs ys
 |_,_=>False
def XSpec (f:Value) (args:List AV) (σ:Store) (R:AV->Store->Prop):Prop:=
 ∃k first cap,f= .func (.func k) first cap/\∀(ρ:Store) (w:World) (vs:Array Value),Sat G (σ++ρ) w->RepL (σ++ρ) w (first.toList.map AV.ofValue++args++cap.toList.map AV.ofValue) vs.toList->
  ∃v r σ' w',(callFunc k vs).run P w= .ok (.value v) w'/\R r σ'/\Sat G (σ'++ρ) w'/\Ev σ w σ' w'/\Rep (σ'++ρ) w' r v
def j7 (f:Value) (args:List AV) (σ:Store) (K:AV->Store->Prop):Prop:=
 ∃R F σr E,(cn G P f E F R\/XSpec G P f E F R)/\aA args E/\Sub (F++σr) σ/\(σ.keys.Nodup->(F++σr:Store).keys.Nodup)/\∀r σ',R r σ'->(σ'++σr:Store).keys.Nodup->K r (σ'++σr)
def Meth (v:Value) (name:String) (k:FuncId) (E:Value):Prop:=
 ∀(w:World) (vs:Array Value),(callMethod v name vs).run P w=(callFunc k (#[E]++vs)).run P w
def AInv (v:Value) (name:String) (args:List AV) (σ:Store) (K:AV->Store->Prop):Prop:=
 ∃k E,Meth P v name k E/\j7 G P (.func (.func k) #[E] #[]) args σ K
def AV.rigid:AV->Option Value
 | .bool b=>some (.bool b)
 | .int k n=>some (.int k n)
 | .str s=>some (.string ⟨⟨s⟩⟩)
 | .nil=>some (.slice none 0 0)
 | .sc v=>some v
 |_=>none
def AQCall (f:Value) (args:List AV) (K:AV->Prop):Prop:=
 ∃r E,r.rigid.isSome=true/\cn G P f E [] (λx σ=>x=r/\σ=[])/\aA args E/\K r
def Fits (n bytes:Nat):Prop:=n*bytes<=140737488355328\/bytes<=1048576/\n*bytes<=211106232532992
def appX0 (e:TypeId) (sz bytes:Nat) (σ:Store) (g:Option Nat) (rows ys:List (List AV)) (K:AV->Store->Prop):Prop:=
 (∀b,g=some b->σ.get b=some (.tok e (rows.length*sz)))/\Fits (rows.length+ys.length) bytes/\
 ∀E,(E=none->rows++ys=[])->(∀b,E=some b->b∉(σ.erase g).keys)->K (.own E e sz (rows++ys)) (tokS E e ((rows++ys).length*sz)++σ.erase g)
def appX (e:TypeId) (sz bytes:Nat) (σ:Store) (g:Option Nat) (rows ys:List (List AV)) (K:AV->Store->Prop):Prop:=
 appX0 e sz bytes σ g rows ys λr σ'=>∃E:Store,(Sub E σ'/\(σ'.keys.Nodup->E.keys.Nodup))/\K r E
def ownX (e:TypeId) (sz:Nat) (x:AV) (K:Option Nat->List (List AV)->Prop):Prop:=
 match x with
 | .nil=>K none []
 | .own g e' sz' rows=>e'=e/\sz'=sz/\K g rows
 |_=>False
def srcX (sz:Nat) (x:AV) (K:List (List AV)->Prop):Prop:=
 match x with
 | .nil=>K []
 | .lst sz' rows=>sz'=sz/\K rows
 | .own _ _ sz' rows=>sz'=sz/\K rows
 |_=>False
def ptrX (x:AV) (K:Nat->Nat->Prop):Prop:=
 match x with
 | .sc (.pointer (some ⟨b,o,none⟩))=>K b o
 |_=>False
def RawOp (op:Op) (env:Env) (σ:Store) (K:AV->Store->Prop):Prop:=
 ∀(ρ:Store) (w:World) (a:Act) (o:Oper),o.op=op->Sat G (σ++ρ) w->(∀j,Rep (σ++ρ) w (env.get j) (a.tmps.getD j undef))->
  ∃v w' r σ',((execOp a.eval o).run P w= .ok (.value v) w'\/(execOp a.eval o).run P w= .ok .skip w'/\v=undef)/\K r σ'/\Sat G (σ'++ρ) w'/\Ev σ w σ' w'/\Rep (σ'++ρ) w' r v
def newX (σ:Store) (K:Nat->Prop):Prop:=∀b,b∉σ.keys->K b
def aop (so:SOp) (env:Env) (σ:Store) (K:AV->Store->Prop):Prop:=
 match so with
 | .alloc e zero=>newX σ λb=>K (.sc (.pointer (some ⟨b,0,none⟩))) ((b,.cells e zero)::σ)
 | .box e n x=>bQ (x.eval G env) λc=>c.length=n/\newX σ λb=>K (.sc (.pointer (some ⟨b,0,none⟩))) ((b,.cells e c)::σ)
 | .boxR n x=>bQ (x.eval G env) λc=>c.length=n/\K (.ref c) σ
 | .buildS e sz len zero parts=>fR G env zero (parts.map λp=>(p.1*sz,sz,p.2)) λcs=>
   newX σ λb=>∃rows:List (List AV),rows.length=len/\(∀r∈rows,r.length=sz)/\rows.flatten=cs/\K (.own (some b) e sz rows) ((b,.tok e (len*sz))::σ)
 | .store n x y=>ptrX (x.eval G env) λb o=>gj (σ.get b) λe cs=>bQ (y.eval G env) λc=>
   c.length=n/\o+n<=cs.length/\K aE (σ.set b (.cells e (splice cs o c)))
 | .append e sz bytes x y=>ownX e sz (x.eval G env) λg rows=>srcX sz (y.eval G env) λys=>appX e sz bytes σ g rows ys K
 | .call f args=>scX (f.eval G env) λv=>j7 G P v (args.map (·.eval G env)) σ K
 | .invoke x name args=>scX (x.eval G env) λv=>AInv G P v name (args.map (·.eval G env)) σ K
 | .raw op=>RawOp G P op env σ K
 |so=>aq G so env σ λr=>K r σ
def gd (x:AV) (E:Bool) (A B C:Prop):Prop:=
 match x with
 | .bool b=>(b=E->A)/\(b= !E->B)
 | .tup []=>C
 |_=>False
def srun:List SOper->Env->Store->(Env->Store->Prop)->Prop
 |[],env,σ,K=>K env σ
 |o::rest,env,σ,K=>match o.guard with
  |none=>aop G P o.op env σ λr σ'=>srun rest (env.put o.dst r) σ' K
  |some (j,want)=>gd (env.get j) want (aop G P o.op (env.set j (.bool want)) σ λr σ'=>srun rest ((env.set j (.bool want)).put o.dst r) σ' K)
    (srun rest ((env.set j (.bool (!want))).put o.dst aE) σ K) (srun rest (env.put o.dst aE) σ K)
def trun:DT->Env->Store->(Env->Store->Prop)->Prop
 | .done,env,σ,K=>K env σ
 | .step o t,env,σ,K=>match o.guard with
  |none=>aop G P o.op env σ λr σ'=>trun t (env.put o.dst r) σ' K
  |some (j,want)=>gd (env.get j) want (aop G P o.op (env.set j (.bool want)) σ λr σ'=>trun t ((env.set j (.bool want)).put o.dst r) σ' K)
    (trun t ((env.set j (.bool (!want))).put o.dst aE) σ K) (trun t (env.put o.dst aE) σ K)
 | .both a b,env,σ,K=>trun a env σ K/\trun b env σ K
def aqc (so:SOp) (env:Env) (σ:Store) (K:AV->Prop):Prop:=
 match so with
 | .call f args=>scX (f.eval G env) λv=>AQCall G P v (args.map (·.eval G env)) K
 |so=>aq G so env σ K
def qrun:List SOper->Env->Store->(Env->Prop)->Prop
 |[],env,_,K=>K env
 |o::rest,env,σ,K=>match o.guard with
  |none=>aqc G P o.op env σ λr=>qrun rest (env.put o.dst r) σ K
  |some (j,want)=>gd (env.get j) want (aqc G P o.op (env.set j (.bool want)) σ λr=>qrun rest ((env.set j (.bool want)).put o.dst r) σ K)
    (qrun rest ((env.set j (.bool (!want))).put o.dst aE) σ K) (qrun rest (env.put o.dst aE) σ K)
def Weak (env:Env) (σ:Store) (E:Env) (σ':Store):Prop:=
 ∀(ρ:Store) (w:World) (tmps:Array Value),Sat G (σ++ρ) w->(∀j,Rep (σ++ρ) w (env.get j) (tmps.getD j undef))->
  Sat G (σ'++ρ) w/\Ev σ w σ' w/\∀j,Rep (σ'++ρ) w (E.get j) (tmps.getD j undef)
def eZ (K:Env->Store->Prop) (Q:Exit->Env->Store->Prop):Exit->Env->Store->Prop
 | .normal,env,σ=>K env σ
 |e,env,σ=>Q e env σ
def jw (id:Nat) (Q:Exit->Env->Store->Prop):Exit->Env->Store->Prop
 | .exit id',env,σ=>if id'=id then Q .normal env σ else Q (.exit id') env σ
 |e,env,σ=>Q e env σ
def swp:SCode->(Exit->Env->Store->Prop)->Env->Store->Prop
 | .skip,Q,env,σ=>Q .normal env σ
 | .region ops keep,Q,env,σ=>srun G P ops env σ λenv σ=>Q .normal (env.keep keep) σ
 | .ghost ops keep,Q,env,σ=>srun G P ops env σ λenv σ=>∃E σ',Weak G (env.keep keep) σ E σ'/\Q .normal E σ'
 | .drawT t keep,Q,env,σ=>trun G P t env σ λenv σ=>∃E σ',Weak G (env.keep keep) σ E σ'/\Q .normal E σ'
 | .drawL ops keep,Q,env,σ=>srun G P ops env σ λenv σ=>Q .normal (env.keep keep) σ
 | .draw ops keep,Q,env,σ=>qrun G P ops env σ λenv=>Q .normal (env.keep keep) σ
 | .seq a b,Q,env,σ=>swp a (eZ (λenv σ=>swp b Q env σ) Q) env σ
 | .cond c a b,Q,env,σ=>match c.eval G env with
  | .bool t=>(t=true->swp a Q env σ)/\(t=false->swp b Q env σ)
  |_=>False
 | .block id a,Q,env,σ=>swp a (jw id Q) env σ
 | .loop a,Q,env,σ=>∃(I:Nat->Env->Store->Prop) (n:Nat) (J:Env) (σ0:Store),I n J σ0/\Weak G env σ J σ0/\
   ∀n env σ,I n env σ->swp a (eZ (λE σ'=>∃m F M,m<n/\I m F M/\Weak G E σ' F M) Q) env σ
 | .exit id,Q,env,σ=>Q (.exit id) env σ
 | .ret,Q,env,σ=>Q .ret env σ
 | .bad,_,_,_=>False
end
end Go.Av
