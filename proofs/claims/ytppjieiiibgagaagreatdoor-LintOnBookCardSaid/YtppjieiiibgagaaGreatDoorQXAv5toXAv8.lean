/-
  ABSTRACT VALUES, 5: weaker states; calls by what the callee does.
-/
import Derived.Test.YtppjieiiibgagaaGreatDoorQXAv4
import Derived.Deep.Quiet
import Derived.OrdersHeld
set_option linter.all false
namespace Go.Av
open Go Go.RowKit List
def Rep.ofOne (σ:Store) (w:World) (v:Value):Rep σ w (AV.ofOne v) v:=by
 cases v<;>first
  |(simp only[AV.ofOne,Rep];done)
  |skip
 case slice a n c=>
  cases a<;>cases n<;>cases c<;>simp only[AV.ofOne,Rep]
def sZ (σ:Store) (w:World):∀vs:List Value,RepL σ w (vs.map AV.ofOne) vs
 |[]=>by simp[RepL]
 |v::vs=>by simp only[map_cons,RepL];exact⟨v,vs,rfl,Rep.ofOne σ w v,sZ σ w vs⟩
def Rep.ofValue (σ:Store) (w:World) (v:Value):Rep σ w (AV.ofValue v) v:=by
 cases v with
 |agg cs=>
  simp only[AV.ofValue];split
  ·rename_i h;simp only[Rep];exact⟨cs,rfl,λv D=>all_eq_true.1 h v D,sZ σ w _⟩
  ·simp only[Rep]
 |_=>simp only[AV.ofValue];exact Rep.ofOne σ w _
def sN (σ:Store) (w:World):∀vs:List Value,RepL σ w (vs.map AV.ofValue) vs
 |[]=>by simp[RepL]
 |v::vs=>by simp only[map_cons,RepL];exact⟨v,vs,rfl,Rep.ofValue σ w v,sN σ w vs⟩
def uK (x:AV):aH x x:=Or.inl rfl
def rW (x:AV):AVle x x:=Or.inl (Or.inl rfl)
def hU:∀xs:List AV,aE xs xs
 |[]=>trivial
 |x::xs=>⟨rW x,hU xs⟩
def aH.rep {σ:Store} {w:World} {x y:AV} (h:aH x y) {u:Value} (D:Rep σ w x u):Rep σ w y u:=by
 rcases h with rfl|h
 ·exact D
 ·cases y with
  |any=>simp only[Rep]
  |lst sz' r'=>
   cases x with
   |own b e sz r=>
    obtain⟨rfl,rfl⟩:=h
    cases b with
    |none=>simp only[Rep]at*;exact .inl D
    |some b=>
     simp only[Rep]at*;obtain⟨cap,E,F,I,M,J⟩:=D;exact .inr ⟨_,cap,E,F,I,J⟩
   |nil=>
    have h:r'=[]:=h;simp only[Rep]at*;exact .inl ⟨D,h⟩
   |_=>exact h.elim
  |own g e sz r=>
   cases x with
   |nil=>
    obtain⟨rfl,rfl⟩:=h;simp only[Rep]at*;exact⟨D,trivial⟩
   |_=>exact h.elim
  |nil=>
   cases x with
   |own g e sz r=>
    have h:g=none:=h;subst h;simp only[Rep]at*;exact D.1
   |_=>exact h.elim
  |sc v=>
   cases x with
   |nil=>
    have h:v= .slice none 0 0:=h;subst h;simp only[Rep]at*;exact D
   |_=>exact h.elim
  |_=>cases x<;>exact h.elim
def aW.rep {σ:Store} {w:World}:∀{xs ys:List AV},aW xs ys->∀{us:List Value},RepL σ w xs us->RepL σ w ys us
 |[],[],_,us,h=>h
 |x::xs,y::ys,hl,us,h=>by
  simp only[RepL]at*;obtain⟨u,D,rfl,E,F⟩:=h;exact⟨u,D,rfl,hl.1.rep E,aW.rep hl.2 F⟩
 |[],_::_,h,_,_=>h.elim
 |_::_,[],h,_,_=>h.elim
def AVle.rep {σ:Store} {w:World} {x y:AV} (h:AVle x y) {u:Value} (F:Rep σ w x u):Rep σ w y u:=by
 rcases h with h|h
 ·exact h.rep F
 ·cases x<;>cases y<;>first
   |exact h.elim
   |skip
  ·simp only[Rep]at*;obtain⟨vs,D,I,E⟩:=F;exact⟨vs,D,I,aW.rep h E⟩
  ·simp only[Rep]at*;obtain⟨vs,D,E⟩:=F;exact⟨vs,D,aW.rep h E⟩
def aE.rep {σ:Store} {w:World}:∀{xs ys:List AV},aE xs ys->∀{us:List Value},RepL σ w xs us->RepL σ w ys us
 |[],[],_,us,h=>h
 |x::xs,y::ys,hl,us,h=>by
  simp only[RepL]at*;obtain⟨u,D,rfl,E,F⟩:=h;exact⟨u,D,rfl,hl.1.rep E,aE.rep hl.2 F⟩
 |[],_::_,h,_,_=>h.elim
 |_::_,[],h,_,_=>h.elim
/-! ### weaker states -/
def cj (env:Env):Env->Prop
 |[]=>True
 |(k,x)::e=>AVle (env.get k) x/\cj env e
def cj.get {env:Env}:∀{D:Env},cj env D->∀j,D.get j= .any\/AVle (env.get j) (D.get j)
 |[],_,j=>.inl rfl
 |(k,x)::e,h,j=>by
  simp only[Env.get];by_cases E:k=j
  ·subst E;rw[if_pos rfl];exact .inr h.1
  ·rw[if_neg E];exact cj.get h.2 j
def SubN (σ' σ:Store):Prop:=Sub σ' σ/\(σ.keys.Nodup->σ'.keys.Nodup)
def SubN.refl (σ:Store):SubN σ σ:=⟨λ_ h=>h,λh=>h⟩
def SubN.nil (σ:Store):SubN [] σ:=⟨λ_ h=>by simp at h,λ_=>by simp[Store.keys]⟩
def SubN.tail {σ' σ:Store} (h:SubN σ' σ) (p:Nat×AObj):SubN σ' (p::σ):=
 ⟨λq E=>mem_cons_of_mem _ (h.1 q E),λD=>h.2 (by simp only[Store.keys,map_cons,nodup_cons]at D;exact D.2)⟩
def SubN.cons {σ' σ:Store} (h:SubN σ' σ) (p:Nat×AObj):SubN (p::σ') (p::σ):=
 ⟨λq E=>by
  rcases mem_cons.1 E with rfl|E
  ·simp
  ·exact mem_cons_of_mem _ (h.1 q E),
  λD=>by
  simp only[Store.keys,map_cons,nodup_cons]at D ⊢
  exact⟨λF=>D.1 (cV h.1 F),h.2 D.2⟩⟩
def Sat.subN {G:Glob} {σ σ' ρ:Store} {w:World} (h:Sat G (σ++ρ) w) (E:SubN σ' σ):Sat G (σ'++ρ) w:=by
 have F:=h.nodup;rw[aC]at F;obtain⟨M,N,O⟩:=nodup_append.1 F;refine h.sub (λp D=>?_) ?_
 ·rcases mem_append.1 D with D|D
  ·exact mem_append.2 (.inl (E.1 p D))
  ·exact mem_append.2 (.inr D)
 ·rw[aC];exact nodup_append.2 ⟨E.2 M,N,λa I b J=>O a (cV E.1 I) b J⟩
def Weak.of {G:Glob} {env D:Env} {σ σ':Store} (J:cj env D) (E:SubN σ' σ):Weak G env σ D σ':=by
 intro ρ w tmps I F;refine⟨I.subN E,rN E.1 w,λj=>?_⟩
 rcases J.get j with h|h
 ·rw[h];simp only[Rep]
 ·exact h.rep (Rep.ev (rN E.1 w) _ _ (F j))
def dT {G:Glob} (env:Env) (σ:Store):Weak G env σ env σ:=λ_ w _ E D=>⟨E,Ev.refl σ w,D⟩
def Weak.trans {G:Glob} {env D E:Env} {σ F I:Store} (h:Weak G env σ D F) (k:Weak G D F E I):Weak G env σ E I:=by
 intro ρ w tmps Y X;obtain⟨J,M,N⟩:=h ρ w tmps Y X;obtain⟨O,T,V⟩:=k ρ w tmps J N;exact⟨O,M.trans T,V⟩
/-! ### calls -/
def aj.v {G:Glob} {P:Program} {k:FuncId} {args:List AV} {σ:Store} {R:AV->Store->Prop} (h:aj G P k args σ R):du G P (.func (.func k) #[] #[]) args σ R:=
 ⟨k,#[],#[],rfl,by simpa using h⟩
def Pure (G:Glob) (P:Program) (k:FuncId) (args:List AV) (r:AV):Prop:=aj G P k args [] λx σ=>x=r/\σ=[]
def gg (G:Glob) (P:Program) (f:Value) (args:List AV) (r:AV):Prop:=du G P f args [] λx σ=>x=r/\σ=[]
def Pure.v {G:Glob} {P:Program} {k:FuncId} {args:List AV} {r:AV} (h:Pure G P k args r):gg G P (.func (.func k) #[] #[]) args r:=aj.v h
def bv {G:Glob} {P:Program} {f:Value} {args:List AV} {σ:Store} {K:AV->Store->Prop} {t:Tag K} {R:AV->Store->Prop} {D:List AV} (E σr:Store)
  (h:du G P f D E R) (J:aE args D) (F:SubN (E++σr) σ) (M:∀r σ',R r σ'->K r (σ'++σr)):CALL G P f args σ K t:=
 ⟨R,E,σr,D,.inl h,J,F.1,F.2,λr σ' I _=>M r σ' I⟩
def aB {G:Glob} {P:Program} {f:Value} {args:List AV} {σ:Store} {K:AV->Store->Prop} {t:Tag K} {R:AV->Store->Prop} {D:List AV} (E σr:Store)
  (h:du G P f D E R) (I:aE args D) (F:SubN (E++σr) σ) (J:∀r σ',R r σ'->(σ'++σr:Store).keys.Nodup->K r (σ'++σr)):CALL G P f args σ K t:=
 ⟨R,E,σr,D,.inl h,I,F.1,F.2,J⟩
def CALL_x {G:Glob} {P:Program} {f:Value} {args:List AV} {σ:Store} {K:AV->Store->Prop} {t:Tag K} {R:AV->Store->Prop} {D:List AV} (E σr:Store)
  (h:XSpec G P f D E R) (J:aE args D) (F:SubN (E++σr) σ) (M:∀r σ',R r σ'->K r (σ'++σr)):CALL G P f args σ K t:=
 ⟨R,E,σr,D,.inr h,J,F.1,F.2,λr σ' I _=>M r σ' I⟩
def aM {G:Glob} {P:Program} {f:Value} {args:List AV} {σ:Store} {K:AV->Store->Prop} {t:Tag K} {r:AV}
  (h:gg G P f args r) (D:K r σ):CALL G P f args σ K t:=
 bv [] σ h (hU _) (SubN.refl _) (by rintro _ _ ⟨rfl,rfl⟩;exact D)
def ab {G:Glob} {P:Program} {k:FuncId} {args:List AV} {σ:Store} {K:AV->Store->Prop} {t:Tag K} {r:AV}
  (h:Pure G P k args r) (D:K r σ):CALL G P (.func (.func k) #[] #[]) args σ K t:=aM h.v D
def aP {G:Glob} {P:Program} {k:FuncId} {args D:List AV} {σ:Store} {K:AV->Store->Prop} {t:Tag K} {r:AV}
  (h:Pure G P k D r) (E:aE args D) (F:K r σ):CALL G P (.func (.func k) #[] #[]) args σ K t:=
 bv [] σ h.v E (SubN.refl _) (by rintro _ _ ⟨rfl,rfl⟩;exact F)
/-! ### a callee's contract, weakened -/
def aj.mono {G:Glob} {P:Program} {k:FuncId} {args:List AV} {σ:Store} {R R':AV->Store->Prop} (h:aj G P k args σ R) (J:∀r σ',R r σ'->R' r σ'):aj G P k args σ R':=
 ⟨h.1,λρ w vs F D=>(h.2 ρ w vs F D).mono λ_ _ ⟨v,r,σ',I,E,rest⟩=>⟨v,r,σ',I,J _ _ E,rest⟩⟩
def SOpd.of:Operand->SOpd
 | .tmp i=>.t i
 | .const v=>.c (AV.ofValue v)
 | .func i=>.f i
 | .global i=>.g i
def aggD:TypeDesc->Bool
 | .struct _| .array _ _=>true
 |_=>false
section
variable (P:Program)
def bC (t:TypeId):Option Nat:=(P.info? t).map (·.size)
def da (t:TypeId):Option (List AV):=
 match (P.info? t).bind (·.zero)with
 |some z=>if z.cells.toList.all (·.oneCell')then some (z.cells.toList.map AV.ofOne)else none
 |none=>none
def fO (D:TypeId->Option (List Nat)):List Field->Nat->Option (List Nat)
 |[],_=>some []
 |f::fs,o=>if f.name== "_" ||f.offset != o then none else match D f.type with
  |some ks=>match fO D fs (o+ks.length)with
   |some ks'=>some (ks++ks')
   |none=>none
  |none=>none
def dY:Nat->TypeId->Option (List Nat)
 |0,_=>none
 |d+1,t=>
  match P.underlying t with
  |some .bool=>some [0]
  |some (.int _)=>some [1]
  |some .string=>some [2]
  |some (.struct fs)=>if P.stoodInHeld t then none else match fO (dY d) fs.toList 0 with
    |some ks=>if bC P t==some ks.length then some ks else none
    |none=>none
  |_=>none
def oM (d:TypeDesc) (y:Operand):Option Nat:=
 match d,y with
 | .slice _,.const (.slice none 0 0)=>some 0
 | .map _ _,.const (.map none)=>some 1
 | .func _ _ _,.const .nilFunc=>some 2
 | .pointer _,.const (.pointer none)=>some 3
 |_,_=>none
def bJ:Builtin->List Operand->List TypeId->Option SOp
 | .len,[x],[t]=>match P.underlying t with
  |some .string=>some (.lenS (SOpd.of x))
  |some (.slice _)=>some (.len (SOpd.of x))
  |_=>none
 | .append,[x,y],[t,t']=>match P.underlying t,P.underlying t' with
  |some (.slice e),some (.slice _)=>match P.info? e,da P e with
   |some i,some z=>if z.length==i.size&&i.size != 0&&i.bytes != 0 then some (.append e i.size i.bytes (SOpd.of x) (SOpd.of y))else none
   |_,_=>none
  |_,_=>none
 |_,_,_=>none
def isNumOp:BinOp->Bool
 | .add| .sub| .mul| .quo| .rem| .eql| .neq| .lss| .leq| .gtr| .geq=>true
 |_=>false
def isStrOp:BinOp->Bool
 | .add| .eql| .neq| .lss| .leq| .gtr| .geq=>true
 |_=>false
def eqNeg:BinOp->Option Bool
 | .eql=>some false
 | .neq=>some true
 |_=>none
def gi (op:BinOp) (t:TypeId) (x y:Operand):Option SOp:=
 match P.underlying t with
 |some (.int _)=>if isNumOp op then some (.bin op (SOpd.of x) (SOpd.of y))else none
 |some .string=>if isStrOp op then some (.bin op (SOpd.of x) (SOpd.of y))else none
 |some .bool=>(eqNeg op).map λn=>.eqb n (SOpd.of x) (SOpd.of y)
 |some (.struct _)=>match dY P 8 t with
  |some ks=>if P.eqGuardType P.depth t then none else (eqNeg op).map λn=>.eqs n ks (SOpd.of x) (SOpd.of y)
  |none=>none
 |some d=>match oM d y with
  |some k=>(eqNeg op).map λn=>.eqnil k n (SOpd.of x)
  |none=>none
 |none=>none
def dU (t:TypeId) (x:Operand):Option SOp:=
 match P.underlying t,bC P t with
 |some d,some n=>if aggD d||n==1 then some (.load (aggD d) n (SOpd.of x))else none
 |_,_=>none
def ei (t:TypeId) (parts:Array (Nat×Operand)):Option SOp:=
 match P.underlying t,da P t with
 |some (.struct fs),some z=>if !(fs.toList.all λf=>(P.info? f.type).isSome)then none else (parts.toList.mapM λ(p:Nat×Operand)=>match fs[p.1]? with
   |some f=>(bC P f.type).map λn=>(f.offset,n,SOpd.of p.2)
   |none=>none).map (.build z ·)
 |_,_=>none
def cb (t:TypeId) (x:Operand) (i:Nat):Option SOp:=
 match P.underlying t with
 |some (.struct fs)=>match fs[i]? with
  |some f=>match bC P f.type with
   |some (_+1)=>some (.fieldA f.offset (SOpd.of x))
   |_=>none
  |none=>none
 |_=>none
def dR (t:TypeId) (x i:Operand):Option SOp:=
 match P.underlying t with
 |some (.slice e)=>(bC P e).map (.indexA · (SOpd.of x) (SOpd.of i))
 |some (.array len e)=>(bC P e).map (.indexP len · (SOpd.of x) (SOpd.of i))
 |_=>none
def ep (t:TypeId) (x i:Operand):Option SOp:=
 match P.underlying t with
 |some .string=>some (.index (SOpd.of x) (SOpd.of i))
 |_=>none
def et (t:TypeId) (x:Operand) (lo hi:Option Operand):Option SOp:=
 match P.underlying t with
 |some (.slice e)=>(bC P e).map (.slice · (SOpd.of x) (lo.map SOpd.of) (hi.map SOpd.of))
 |some .string=>some (.sliceS (SOpd.of x) (lo.map SOpd.of) (hi.map SOpd.of))
 |_=>none
def eu (t:TypeId) (x:Operand) (i:Nat):Option SOp:=
 match P.underlying t with
 |some (.struct fs)=>match fs[i]? with
  |some f=>match P.underlying f.type,bC P f.type with
   |some d,some n=>if aggD d||n==1 then some (.field (aggD d) f.offset n (SOpd.of x))else none
   |_,_=>none
  |none=>none
 |_=>none
def fb (D dst:TypeId) (x:Operand):Option SOp:=
 match P.underlying D,P.underlying dst with
 |some (.int _),some (.int k)=>some (.conv k (SOpd.of x))
 |some .string,some .string=>some (.str (SOpd.of x))
 |_,_=>none
def dN (t:TypeId) (len:Nat) (parts:Array (Nat×Operand)):Option SOp:=
 match P.underlying t with
 |some (.slice e)=>match bC P e,da P e with
  |some n,some z=>if z.length==n&&n != 0&&decide (len*n<=16777216)then some (.buildS e n len (List.replicate len z).flatten (parts.toList.map λ(p:Nat×Operand)=>(p.1,SOpd.of p.2)))else none
  |_,_=>none
 |_=>none
def fZ (t:TypeId) (x:Operand):Option SOp:=
 match P.underlying t with
 |some (.interface _)=>none
 |some _=>some (.mkI t (SOpd.of x))
 |none=>none
def ci:Op->Option SOp
 | .move x=>some (.mov (SOpd.of x))
 | .assign x=>some (.mov (SOpd.of x))
 | .pick c a b=>some (.pick (SOpd.of c) (SOpd.of a) (SOpd.of b))
 | .nilCheck x=>some (.nilCheck (SOpd.of x))
 | .load t x=>dU P t x
 | .build t parts=>ei P t parts
 | .fieldAddr t x i=>cb P t x i
 | .indexAddr t x i=>dR P t x i
 | .index t x i=>ep P t x i
 | .slice t x lo hi mx=>if mx.isSome then none else et P t x lo hi
 | .field t x i=>eu P t x i
 | .extract x i=>some (.extract i (SOpd.of x))
 | .binOp op t x y _=>gi P op t x y
 | .unOp op _ x=>match op with
  | .not=>some (.not (SOpd.of x))
  |_=>none
 | .convert src dst x=>fb P src dst x
 | .makeFunc fn first cap=>some (.mkfun fn (first.toList.map SOpd.of) (cap.toList.map SOpd.of))
 | .alloc e=>(da P e).map (.alloc e ·)
 | .box e x=>(bC P e).map (.box e · (SOpd.of x))
 | .buildSlice t len parts=>dN P t len parts
 | .store t a x=>(bC P t).map (.store · (SOpd.of a) (SOpd.of x))
 | .call c=>match c.callee with
  | .builtin b=>bJ P b c.args.toList c.argTypes.toList
  | .value f=>some (.call (SOpd.of f) (c.args.toList.map SOpd.of))
  | .invoke r name=>some (.invoke (SOpd.of r) name (c.args.toList.map SOpd.of))
 | .makeInterface t x=>fZ P t x
 |_=>none
def fc (ops:Array Oper):Option (Nat×Bool)->Option (Option (Nat×Bool))
 |none=>some none
 |some (j,b)=>((ops[j]?).bind (·.dst)).map λd=>some (d,b)
def d7 (n:Nat):Option Nat->Bool
 |none=>true
 |some d=>decide (d<n)
def roBox (E:Nat->Bool) (o:Oper) (D:SOp):SOp:=
 match o.op,o.dst with
 | .box e x,some d=>if E d then (match bC P e with
  |some m=>.boxR m (SOpd.of x)
  |none=>D)else D
 |_,some d=>if E (1000000+d)then .raw o.op else D
 |_,_=>D
def eZ (n:Nat) (D:Nat->Bool) (ops:Array Oper) (o:Oper):Option SOper:=
 match fc ops o.guard,d7 n o.dst with
 |some g,true=>some ⟨o.dst,g,roBox P D o ((ci P o.op).getD (.raw o.op))⟩
 |_,_=>none
def cI (n:Nat) (D:Nat->Bool) (ops:Array Oper):List Oper->Option (List SOper)
 |[]=>some []
 |o::rest=>match eZ P n D ops o,cI n D ops rest with
  |some so,some sos=>some (so::sos)
  |_,_=>none
def cr (d:Option Nat) (D:List Nat) (keep:Bool):List Nat:=
 match d with
 |none=>D
 |some d=>if keep then d::D else D.filter λj=>!(j==d)
def iy (n:Nat) (F:Nat->Bool) (ops:Array Oper) (E:Array Bool) (D:List Nat) (i:Nat):Option (Nat×SOper×List Nat):=
 match ops[i]? with
 |none=>none
 |some o=>match eZ P n F ops o with
  |none=>none
  |some so=>if Region.free .any ops E i then
    match o.op with
    | .fieldAddr _ (.tmp p) _=>if so.op.slot then some (i,so,cr o.dst D (D.contains p))else none
    | .load t (.tmp p)=>if D.contains p then
      match P.underlying t,bC P t with
      |some d,some m=>if aggD d||m==1 then some (i,{so with op:=.loadF (aggD d) m (.t p)},cr o.dst D false)else none
      |_,_=>none
     else none
    |_=>if so.op.slot then some (i,so,cr o.dst D false)else none
   else none
def mz (n:Nat) (D:Nat->Bool) (ops:Array Oper):Nat->Array Bool->List Nat->Option (List SOper)
 |0,listed,_=>if (Region.ready .any ops listed).isEmpty then some []else none
 |f+1,listed,good=>
  if (Region.ready .any ops listed).isEmpty then some []else
  match (Region.ready .any ops listed).findSome? (iy P n D ops listed good)with
  |some (i,so,good')=>(mz n D ops f (listed.setIfInBounds i true) good').map (so:: ·)
  |none=>match Region.ready .any ops listed with
   |[i]=>match (ops[i]?).bind (eZ P n D ops)with
    |some so=>(mz n D ops f (listed.setIfInBounds i true) (cr so.dst good false)).map (so:: ·)
    |none=>none
   |_=>none
def allD:List (Option DT)->Option DT
 |[]=>none
 |x::xs=>match xs with
  |[]=>x
  |_::_=>match x,allD xs with
   |some a,some b=>some (.both a b)
   |_,_=>none
def mb (n:Nat) (D:Nat->Bool) (ops:Array Oper):Nat->Array Bool->List Nat->Option DT
 |0,listed,_=>if (Region.ready .any ops listed).isEmpty then some .done else none
 |f+1,listed,good=>
  if (Region.ready .any ops listed).isEmpty then some .done else
  match (Region.ready .any ops listed).findSome? (iy P n D ops listed good)with
  |some (i,so,good')=>(mb n D ops f (listed.setIfInBounds i true) good').map (.step so ·)
  |none=>allD ((Region.ready .any ops listed).map λi=>match (ops[i]?).bind (eZ P n D ops)with
   |some so=>(mb n D ops f (listed.setIfInBounds i true) (cr so.dst good false)).map (.step so ·)
   |none=>none)
def quietOp:SOp->Bool
 | .call _ _| .invoke _ _ _| .alloc _ _| .box _ _ _| .boxR _ _| .buildS _ _ _ _ _| .store _ _ _| .append _ _ _ _ _| .raw _=>false
 |_=>true
def lb (E:Nat->Bool) (ops:List Oper):List Nat:=
 (ops.flatMap λo=>o.op.operands.toList.flatMap λx=>match x with
  | .tmp t=>if E t&& !(ops.any λD=>D.dst==some t)then [t]else []
  |_=>[]).eraseDups
def iP (ops:Array Oper):List SOper->Nat->Array Bool->Bool
 |[],_,listed=>(Region.ready .any ops listed).isEmpty
 |so::l,k,listed=>((so.op.slot&&(Region.free .any ops listed k&&(Region.ready .any ops listed).contains k))||Region.ready .any ops listed==[k])&&iP ops l (k+1) (listed.setIfInBounds k true)
def trans (n:Nat) (keep:Nat->List Nat×Bool):Code->Option SCode
 | .skip=>some .skip
 | .region id ops false=>(cI P n (λd=>(keep (2000000+d)).2) ops ops.toList).map λD=>if (keep id).2 then .ghost D (keep id).1 else .region D (keep id).1
 | .region id ops true=>(cI P n (λd=>(keep (2000000+d)).2) ops ops.toList).map λD=>
   if P.follows .mixedOrders&&(Region.noSelect ops&&iP ops D 0 (Array.replicate ops.size false))then .drawL D (keep id).1
   else match (if P.follows .mixedOrders&&Region.noSelect ops then mz P n (λd=>(keep (2000000+d)).2) ops ops.size (Array.replicate ops.size false) (lb (λd=>(keep (2000000+d)).2) ops.toList)else none)with
   |some sl=>.drawL sl (keep id).1
   |none=>if (P.follows .mixedOrders&&Region.lexB .any ops)&&D.all (λE=>quietOp E.op)then .draw D (keep id).1 else
    match (if P.follows .mixedOrders&&Region.noSelect ops then mb P n (λd=>(keep (2000000+d)).2) ops ops.size (Array.replicate ops.size false) (lb (λd=>(keep (2000000+d)).2) ops.toList)else none)with
    |some t=>.drawT t (keep id).1
    |none=>.bad
 | .seq a b=>match trans n keep a,trans n keep b with
  |some x,some y=>some (.seq x y)
  |_,_=>none
 | .cond c a b=>match trans n keep a,trans n keep b with
  |some x,some y=>some (.cond (SOpd.of c) x y)
  |_,_=>none
 | .block id a=>(trans n keep a).map λx=>.seq (.block id x) (.region [] (keep (id+1000000)).1)
 | .loop a=>(trans n keep a).map .loop
 | .exit id=>some (.exit id)
 | .ret=>some .ret
 |_=>some .bad
end
def Same (w w':World):Prop:=w.heap.size<=w'.heap.size/\∀b,b<w.heap.size->w'.heap[b]? =w.heap[b]?
def Same.refl (w:World):Same w w:=⟨Nat.le_refl _,λ_ _=>rfl⟩
def Same.cell {w w':World} (h:Same w w') {a:Addr} {v:Value} (D:w.cell? a=some v):w'.cell? a=some v:=by
 rw[World.cell?_of_block (w:=w) (h.2 a.block (fA D))];exact D
def rv:∀{σ:Store} {b:Nat} {x:AObj},σ.get b=some x->(b,x)∈σ
 |[],b,x,h=>by simp[Store.get]at h
 |(k,y)::s,b,x,h=>by
  simp only[Store.get]at h;by_cases D:k=b
  ·subst D;rw[if_pos rfl]at h;cases h;simp
  ·rw[if_neg D]at h;exact mem_cons_of_mem _ (rv h)
section
variable {G:Glob} {P:Program} {τ:Store} {w:World} {env:Env} {a:Act}
def au (E:Sat G τ w) (D:∀j,Rep τ w (env.get j) (a.tmps.getD j undef)) (x:Operand):Rep τ w ((SOpd.of x).eval G env) (a.eval x):=by
 cases x with
 |tmp i=>exact D i
 |const v=>exact Rep.ofValue τ w v
 |func f=>simp only[SOpd.of,SOpd.eval,Rep];rfl
 |global g=>
  simp only[SOpd.of,SOpd.eval];split
  ·rename_i cs h;simp only[Rep];exact⟨⟨g,0,none⟩,rfl,G.tabs E.glob h⟩
  ·simp only[Rep];rfl
def nq (E:Sat G τ w) (D:∀j,Rep τ w (env.get j) (a.tmps.getD j undef)):∀xs:List Operand,RepL τ w ((xs.map SOpd.of).map (·.eval G env)) (xs.map a.eval)
 |[]=>by simp[RepL]
 |x::xs=>by
  simp only[map_cons,RepL];exact⟨_,_,rfl,au E D x,nq E D xs⟩
def jR {F:Addr} {cs:List AV} (h:RepAt τ w F 0 cs) (n:Nat) (Y:n<=cs.length):
  ∃vs:List Value,vs.length=n/\RepL τ w (cs.take n) vs/\(∀v∈vs,v.oneCell'=true)/\(∀j v,vs[j]? =some v->w.cell? (F.add j)=some v):=by
 induction n with
 |zero=>exact⟨[],rfl,by simp[RepL],by simp,by simp⟩
 |succ n ih=>
  obtain⟨vs,J,M,N,O⟩:=ih (by omega);obtain⟨u,⟨I,_⟩,T,V⟩:=h.get n (by omega);rw[Nat.zero_add]at I;refine⟨vs++[u],by simp[J],?_,?_,?_⟩
  ·rw[take_succ_eq_append_getElem (by omega)];exact RepL.append M (by simp only[RepL];exact⟨u,[],rfl,V,rfl⟩)
  ·intro v D
   rcases mem_append.1 D with D|D
   ·exact N v D
   ·simp at D;subst D;exact T
  ·intro j v D;rw[getElem?_append]at D;split at D
   ·exact O j v D
   ·rename_i X
    have:j-vs.length=0:=by
     rcases Nat.eq_zero_or_pos (j-vs.length)with e|e
     ·exact e
     ·simp[show j-vs.length≠0 by omega]at D
    have E:j=n:=by omega
    subst E;simp[this]at D;subst D;exact I
def isLoad:Op->Bool
 | .load _ _=>true
 |_=>false
def QOk (P:Program) (τ:Store) (w:World) (o:Oper) (a:Act) (K:AV->Prop):Prop:=
 ∃r u,K r/\Rep τ w r u/\∀w',(isLoad o.op=true->Same w w')->(execOp a.eval o).run P w'= .ok (.value u) w'
variable {o:Oper} {K:AV->Prop}
def q_mov {x:Operand} (D:o.op= .move x\/o.op= .assign x) (F:Sat G τ w) (E:∀j,Rep τ w (env.get j) (a.tmps.getD j undef)) (h:K ((SOpd.of x).eval G env)):QOk P τ w o a K:=
 ⟨_,a.eval x,h,au F E x,λw' _=>by rcases D with D|D<;>simp[execOp,D]⟩
def q_pick {c x y:Operand} (I:o.op= .pick c x y) (F:Sat G τ w) (E:∀j,Rep τ w (env.get j) (a.tmps.getD j undef))
  (h:j6 ((SOpd.of c).eval G env) ((SOpd.of x).eval G env) ((SOpd.of y).eval G env) K):QOk P τ w o a K:=by
 have D:=au (G:=G) F E c
 unfold j6 at h
 split at h
 ·rename_i t J
  rw[J]at D;simp only[Rep]at D
  cases t with
  |true=>exact⟨_,a.eval x,h.1 rfl,au F E x,λw' _=>by simp[execOp,I,D,asBool]⟩
  |false=>exact⟨_,a.eval y,h.2 rfl,au F E y,λw' _=>by simp[execOp,I,D,asBool]⟩
 ·exact h.elim
def qO {x:Operand} (F:o.op= .nilCheck x) (M:Sat G τ w) (J:∀j,Rep τ w (env.get j) (a.tmps.getD j undef))
  (h:nilAV ((SOpd.of x).eval G env) K):QOk P τ w o a K:=by
 have D:=au (G:=G) M J x
 unfold nilAV at h
 split at h
 ·rename_i cs E
  rw[E]at D;refine⟨_,a.eval x,h,D,λw' _=>?_⟩;simp only[Rep]at D;obtain⟨I,N,_⟩:=D;simp[execOp,F,N]
 ·rename_i I E
  rw[E]at D;refine⟨_,a.eval x,h,D,λw' _=>?_⟩;simp only[Rep]at D;simp[execOp,F,D]
 ·rename_i k fs cs E
  rw[E]at D;refine⟨_,a.eval x,h,D,λw' _=>?_⟩;simp only[Rep]at D;simp[execOp,F,D]
 ·exact h.elim
def cW {d:TypeDesc} {t:TypeId} (D:P.underlying t=some d) (w':World):(isAgg t).run P w'= .ok (aggD d) w':=by
 unfold isAgg;rw[Sem.run_bind,run_underlying D w']
 cases d<;>simp[aggD]
def bF {n:Nat} {t:TypeId} (D:bC P t=some n) (w':World):(sizeOf t).run P w'= .ok n w':=by
 unfold bC at D
 cases E:P.info? t with
 |none=>simp[E]at D
 |some i=>simp[E]at D;simp[sizeOf,typeInfo,E,D]
def jY {d:TypeDesc} {t:TypeId} {n:Nat} (N:P.underlying t=some d) (M:bC P t=some n) (E:(aggD d||n==1)=true) (D:Addr) (vs:List Value) (J:vs.length=n) (w':World)
  (F:∀j v,vs[j]? =some v->w'.cell? (D.add j)=some v):(loadVar t D).run P w'= .ok (if aggD d then .agg vs.toArray else vs.headD undef) w':=by
 subst J
 unfold loadVar
 rw[Sem.run_bind,cW N]
 cases I:aggD d with
 |true=>simp[bF M,run_loadCells_list (P:=P) w' D vs F]
 |false=>
  simp[I]at E
  obtain⟨v,rfl⟩:∃v,vs=[v]:=by
   match vs,E with
   |[v],_=>exact⟨v,rfl⟩
  have:=F 0 v rfl
  have e:D.add 0=D:=by simp[Addr.add]
  rw[e]at this;simp[this]
def pz {t:TypeId} {d:TypeDesc} {n:Nat} (hu:P.underlying t=some d) (hn:bC P t=some n) (T:(aggD d||n==1)=true)
  {σ ρ:Store} (Z:τ=σ++ρ) (hS:Sat G τ w) {X:AV} {q:Value} (O:Rep τ w X q) (h:nk σ (aggD d) n X K):
  ∃D r v,q= .pointer (some D)/\K r/\Rep τ w r v/\∀w',Same w w'->(loadVar t D).run P w'= .ok v w':=by
 have J:∀(D:Addr) (cs:List AV) (vs:List Value),q= .pointer (some D)->vs.length=n->RepL τ w (cs.take n) vs->(∀v∈vs,v.oneCell'=true)->
   (∀w',Same w w'->∀j v,vs[j]? =some v->w'.cell? (D.add j)=some v)->fR (aggD d) n cs K->∃D r v,q= .pointer (some D)/\K r/\Rep τ w r v/\∀w',Same w w'->(loadVar t D).run P w'= .ok v w':=by
  intro D cs vs Y hl E I hc hk
  refine⟨D,_,if aggD d then .agg vs.toArray else vs.headD undef,Y,hk.2,?_,λw' N=>?_⟩
  ·cases hd:aggD d with
   |true=>simp only[if_true,Rep];exact⟨vs.toArray,rfl,by simpa using I,by simpa using E⟩
   |false=>
    simp[hd]at T;subst T
    match vs,hl with
    |[v],_=>
     match cs,hk.1 with
     |c::cs,_=>
      simp only[take_succ_cons,take_zero,RepL]at E;obtain⟨u,us,e,h2,_⟩:=E;simp only[List.cons.injEq]at e;simp only[Bool.false_eq_true,if_false,headD_cons];rw[e.1];exact h2
  ·exact jY hu hn T D vs hl w' (hc w' N)
 unfold nk at h
 split at h
 ·rename_i cs
  simp only[Rep]at O;obtain⟨D,Y,E⟩:=O;obtain⟨vs,l1,l2,l3,l4⟩:=jR E n h.1;exact J D cs vs Y l1 l2 l3 (λw' N j v F=>N.cell (l4 j v F)) h
 ·rename_i b off
  simp only[Rep]at O;unfold iD at h;split at h
  ·rename_i e cs hg
   have hm:(b,AObj.cells e cs)∈τ:=by rw[Z];exact mem_append.2 (.inl (rv hg))
   obtain⟨vs,hh,I,E⟩:=hS.obj b _ hm;have M:=E.length;have V:n<=(cs.drop off).length:=h.1;refine J ⟨b,off,none⟩ (cs.drop off) ((vs.toList.drop off).take n) O ?_ (RepL.take n (RepL.drop off E)) ?_ ?_ h
   ·simp at V M ⊢;omega
   ·intro v F;exact I v (mem_of_mem_drop (mem_of_mem_take F))
   ·intro w' N j v F;rw[add_lit]
    have hb:w'.heap[b]? =some (.cells vs e (0,0)):=by rw[N.2 b (Array.getElem?_eq_some_iff.1 hh).1];exact hh
    rw[cell_of_row w' b (off+j) vs e (0,0) hb];rw[getElem?_take]at F;split at F
    ·simpa using F
    ·cases F
  ·exact h.elim
 ·exact h.elim
def q_load {t:TypeId} {x:Operand} {d:TypeDesc} {n:Nat} (I:o.op= .load t x) (Y:P.underlying t=some d) (O:bC P t=some n) (J:(aggD d||n==1)=true)
  {σ ρ:Store} (E:τ=σ++ρ) (F:Sat G τ w) (M:∀j,Rep τ w (env.get j) (a.tmps.getD j undef)) (h:nk σ (aggD d) n ((SOpd.of x).eval G env) K):QOk P τ w o a K:=by
 obtain⟨Z,r,v,T,N,V,D⟩:=pz Y O J E F (au (G:=G) F M x) h
 exact⟨r,v,N,V,λw' X=>by simp[execOp,I,Instr.loadAt,T,Instr.sureAddr,D w' (X (by rw[I];rfl))]⟩
end
def bg:∀(l:List AV) (o:Nat) (c:List AV),o+c.length<=l.length->aJ l o c=l.take o++c++l.drop (o+c.length)
 |l,0,c,_=>by cases l<;>simp[aJ]
 |[],o+1,c,h=>by simp at h
 |x::l,o+1,c,h=>by
  have:=bg l o c (by simp at h;omega);simp only[aJ,this,take_succ_cons,cons_append];rw[show o+1+c.length=(o+c.length)+1 by omega,drop_succ_cons]
def lW (o:Nat):∀(vs:List Value) (i:Nat) (C:Array Value),o+i+vs.length<=C.size->
  ((vs.zipIdx i).foldl (λcs (x:Value×Nat)=>cs.setIfInBounds (o+x.2) x.1) C).toList=C.toList.take (o+i)++vs++C.toList.drop (o+i+vs.length)
 |[],i,C,_=>by simp
 |v::vs,i,C,h=>by
  simp only[zipIdx_cons,foldl_cons];rw[lW o vs (i+1) (C.setIfInBounds (o+i) v) (by simp at h ⊢;omega)]
  have hi:o+i<C.toList.length:=by simp at h ⊢;omega
  simp only[Array.toList_setIfInBounds,length_cons];rw[←Nat.add_assoc,show o+i+1+vs.length=o+i+(vs.length+1)by omega];rw[drop_set_of_lt (by omega),take_add_one,getElem?_set_self hi,take_set_of_le (Nat.le_refl _)];simp
section
variable {G:Glob} {P:Program} {τ:Store} {w:World} {env:Env} {a:Act} {o:Oper} {K:AV->Prop}
def iK {x:AV} {v:Value} {c:List AV} (F:AV.cells? x=some c) (h:Rep τ w x v):RepL τ w c v.cells.toList/\∀u∈v.cells.toList,u.oneCell'=true:=by
 have D:∀y:AV,Rep τ w y v->v.oneCell'=true->v.cells=#[v]->RepL τ w [y] v.cells.toList/\∀u∈v.cells.toList,u.oneCell'=true:=by
  intro y N I J;rw[J];exact⟨by simp only[RepL];exact⟨v,[],rfl,N,rfl⟩,by simpa using I⟩
 cases x with
 |any=>simp[AV.cells?]at F
 |tup cs=>simp[AV.cells?]at F
 |agg cs=>
  simp[AV.cells?]at F;subst F;simp only[Rep]at h;obtain⟨vs,rfl,I,J⟩:=h;exact⟨by simpa[Value.cells]using J,by simpa[Value.cells]using I⟩
 |sc u=>
  simp only[AV.cells?]at F;split at F
  ·rename_i I
   cases F
   have E:=h;simp only[Rep]at E;subst E;refine D _ h I ?_
   cases v<;>first|rfl|exact absurd I (by simp[Value.oneCell'])
  ·cases F
 |bool b=>
  simp[AV.cells?]at F;subst F;have E:=h;simp only[Rep]at E;subst E;exact D _ h rfl rfl
 |int k n=>
  simp[AV.cells?]at F;subst F;have E:=h;simp only[Rep]at E;subst E;exact D _ h rfl rfl
 |str s=>
  simp[AV.cells?]at F;subst F;have E:=h;simp only[Rep]at E;subst E;exact D _ h rfl rfl
 |nil=>
  simp[AV.cells?]at F;subst F;have E:=h;simp only[Rep]at E;subst E;exact D _ h rfl rfl
 |lst sz rows=>
  simp[AV.cells?]at F;subst F;have E:=h;simp only[Rep]at E
  rcases E with⟨E,_⟩|⟨M,cap,E,_⟩<;>subst E<;>exact D _ h rfl rfl
 |own b e sz rows=>
  simp[AV.cells?]at F;subst F;have E:=h
  cases b with
  |none=>simp only[Rep]at E;obtain⟨E,_⟩:=E;subst E;exact D _ h rfl rfl
  |some b=>simp only[Rep]at E;obtain⟨cap,E,_⟩:=E;subst E;exact D _ h rfl rfl
 |ref cs=>
  simp[AV.cells?]at F;subst F;have E:=h;simp only[Rep]at E;obtain⟨M,E,_⟩:=E;subst E;exact D _ h rfl rfl
def qW {cs c:List AV} {C:Array Value} {v:Value} {off n:Nat} (D:RepL τ w cs C.toList) (F:RepL τ w c v.cells.toList) (J:c.length=n) (E:off+n<=cs.length):
  RepL τ w (aJ cs off c) (v.cells.zipIdx.foldl (λcs (x:Value×Nat)=>cs.setIfInBounds (off+x.2) x.1) C).toList:=by
 have M:=D.length
 have I:=F.length
 subst J
 have e:=lW off v.cells.toList 0 C (by simp at M I ⊢;omega)
 rw[←Array.foldl_toList,Array.toList_zipIdx]
 rw[e,bg cs off c E]
 simp only[Nat.add_zero]
 rw[I]
 exact RepL.append (RepL.append (RepL.take _ D) F) (RepL.drop _ D)
def lG (E:Nat->Option (Nat×Nat)):∀(parts:List (Nat×Operand)) (D:List (Nat×Nat×SOpd)) (cs:List AV) (C:Array Value) (KL:List AV->Prop),
  (∀(j:Nat) p q,parts[j]? =some p->D[j]? =some q->E p.1=some (q.1,q.2.1)/\q.2.2=SOpd.of p.2)->parts.length=D.length->
  Sat G τ w->(∀j,Rep τ w (env.get j) (a.tmps.getD j undef))->RepL τ w cs C.toList->(∀v∈C.toList,v.oneCell'=true)->g7 G env cs D KL->
  ∃C' cs',Instr.fill E C (parts.map λp=>(p.1,a.eval p.2))=some C'/\KL cs'/\RepL τ w cs' C'.toList/\∀v∈C'.toList,v.oneCell'=true
 |[],[],cs,C,KL,_,_,_,_,hC,I,h=>⟨C,cs,rfl,h,hC,I⟩
 |p::parts,q::D,cs,C,KL,hp,hl,hS,hE,hC,I,h=>by
  obtain⟨off,n,x⟩:=q;obtain⟨J,T⟩:=hp 0 p _ rfl rfl;simp only at J T;subst T;simp only[g7,co]at h;split at h
  ·rename_i c X;obtain⟨Y,N,h⟩:=h;obtain⟨r1,r2⟩:=iK X (au hS hE p.2);have l1:=hC.length;have l2:=r1.length
   have O:(a.eval p.2).cells.size=n:=by simp at l2;omega
   have Z:off+(a.eval p.2).cells.size<=C.size:=by simp at l1;omega
   have M:=qW (w:=w) hC r1 Y N
   obtain⟨C',cs',k1,k2,k3,k4⟩:=lG E parts D (aJ cs off c) _ KL (λj p q I V=>hp (j+1) p q I V) (by simpa using hl) hS hE M (by
    rw[←Array.foldl_toList,Array.toList_zipIdx,lW off _ 0 C (by simp;omega)]
    intro v F
    simp only[mem_append]at F
    rcases F with(F|F)|F
    ·exact I v (mem_of_mem_take F)
    ·exact r2 v F
    ·exact I v (mem_of_mem_drop F)) h
   refine⟨C',cs',?_,k2,k3,k4⟩;simp only[map_cons,Instr.fill,J];rw[if_neg (by simp[O];omega)];exact k1
  ·exact h.elim
 |[],_::_,_,_,_,_,hl,_,_,_,_,_=>by simp at hl
 |_::_,[],_,_,_,_,hl,_,_,_,_,_=>by simp at hl
end
end Go.Av
