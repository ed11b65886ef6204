/-
  ABSTRACT VALUES, 5: weaker states; calls by what the callee does.
-/
import Derived.Test.YtjdccoplpljmlaaGreatDoorVXAv4
import Derived.Deep.Quiet
import Derived.OrdersHeld
namespace Go.Av
open Go Go.RowKit List
set_option linter.unusedSimpArgs false
set_option linter.unusedVariables false
theorem Rep.ofOne (σ:Store) (w:World) (v:Value):Rep σ w (AV.ofOne v) v:=by
 cases v<;>first
  |(simp only[AV.ofOne,Rep];done)
  |skip
 case slice a n c=>
  cases a<;>cases n<;>cases c<;>simp only[AV.ofOne,Rep]
theorem RepL.ofOnes (σ:Store) (w:World):∀vs:List Value,RepL σ w (vs.map AV.ofOne) vs
 |[]=>by simp[RepL]
 |v::vs=>by simp only[map_cons,RepL];exact⟨v,vs,rfl,Rep.ofOne σ w v,RepL.ofOnes σ w vs⟩
theorem Rep.ofValue (σ:Store) (w:World) (v:Value):Rep σ w (AV.ofValue v) v:=by
 cases v with
 |agg cs=>
  simp only[AV.ofValue]
  split
  ·rename_i h
   simp only[Rep]
   exact⟨cs,rfl,λv E=>all_eq_true.1 h v E,RepL.ofOnes σ w _⟩
  ·simp only[Rep]
 |_=>simp only[AV.ofValue];exact Rep.ofOne σ w _
theorem RepL.ofValues (σ:Store) (w:World):∀vs:List Value,RepL σ w (vs.map AV.ofValue) vs
 |[]=>by simp[RepL]
 |v::vs=>by simp only[map_cons,RepL];exact⟨v,vs,rfl,Rep.ofValue σ w v,RepL.ofValues σ w vs⟩
theorem aU.rfl' (x:AV):aU x x:=Or.inl rfl
theorem AVle.rfl' (x:AV):AVle x x:=Or.inl (Or.inl rfl)
theorem aA.rfl':∀xs:List AV,aA xs xs
 |[]=>trivial
 |x::xs=>⟨AVle.rfl' x,aA.rfl' xs⟩
theorem aU.rep {σ:Store} {w:World} {x y:AV} (h:aU x y) {u:Value} (E:Rep σ w x u):Rep σ w y u:=by
 rcases h with rfl|h
 ·exact E
 ·cases y with
  |any=>simp only[Rep]
  |lst sz' r'=>
   cases x with
   |own b e sz r=>
    obtain⟨rfl,rfl⟩:=h
    cases b with
    |none=>simp only[Rep]at*;exact .inl E
    |some b=>
     simp only[Rep]at*
     obtain⟨cap,F,I,J,N,M⟩:=E
     exact .inr ⟨_,cap,F,I,J,M⟩
   |nil=>
    have h:r'=[]:=h
    simp only[Rep]at*
    exact .inl ⟨E,h⟩
   |_=>exact h.elim
  |own g e sz r=>
   cases x with
   |nil=>
    obtain⟨rfl,rfl⟩:=h
    simp only[Rep]at*
    exact⟨E,trivial⟩
   |_=>exact h.elim
  |nil=>
   cases x with
   |own g e sz r=>
    have h:g=none:=h
    subst h
    simp only[Rep]at*
    exact E.1
   |_=>exact h.elim
  |sc v=>
   cases x with
   |nil=>
    have h:v= .slice none 0 0:=h
    subst h
    simp only[Rep]at*
    exact E
   |_=>exact h.elim
  |_=>cases x<;>exact h.elim
theorem br.rep {σ:Store} {w:World}:∀{xs ys:List AV},br xs ys->∀{us:List Value},RepL σ w xs us->RepL σ w ys us
 |[],[],_,us,h=>h
 |x::xs,y::ys,hl,us,h=>by
  simp only[RepL]at*
  obtain⟨u,E,rfl,F,I⟩:=h
  exact⟨u,E,rfl,hl.1.rep F,br.rep hl.2 I⟩
 |[],_::_,h,_,_=>h.elim
 |_::_,[],h,_,_=>h.elim
theorem AVle.rep {σ:Store} {w:World} {x y:AV} (h:AVle x y) {u:Value} (I:Rep σ w x u):Rep σ w y u:=by
 rcases h with h|h
 ·exact h.rep I
 ·cases x<;>cases y<;>first
   |exact h.elim
   |skip
  ·simp only[Rep]at*
   obtain⟨vs,E,J,F⟩:=I
   exact⟨vs,E,J,br.rep h F⟩
  ·simp only[Rep]at*
   obtain⟨vs,E,F⟩:=I
   exact⟨vs,E,br.rep h F⟩
theorem aA.rep {σ:Store} {w:World}:∀{xs ys:List AV},aA xs ys->∀{us:List Value},RepL σ w xs us->RepL σ w ys us
 |[],[],_,us,h=>h
 |x::xs,y::ys,hl,us,h=>by
  simp only[RepL]at*
  obtain⟨u,E,rfl,F,I⟩:=h
  exact⟨u,E,rfl,hl.1.rep F,aA.rep hl.2 I⟩
 |[],_::_,h,_,_=>h.elim
 |_::_,[],h,_,_=>h.elim
/-! ### weaker states -/
def dI (env:Env):Env->Prop
 |[]=>True
 |(k,x)::e=>AVle (env.get k) x/\dI env e
theorem dI.get {env:Env}:∀{E:Env},dI env E->∀j,E.get j= .any\/AVle (env.get j) (E.get j)
 |[],_,j=>.inl rfl
 |(k,x)::e,h,j=>by
  simp only[Env.get]
  by_cases F:k=j
  ·subst F;rw[if_pos rfl];exact .inr h.1
  ·rw[if_neg F];exact dI.get h.2 j
def SubN (σ' σ:Store):Prop:=Sub σ' σ/\(σ.keys.Nodup->σ'.keys.Nodup)
theorem SubN.refl (σ:Store):SubN σ σ:=⟨λ_ h=>h,λh=>h⟩
theorem SubN.nil (σ:Store):SubN [] σ:=⟨λ_ h=>by simp at h,λ_=>by simp[Store.keys]⟩
theorem SubN.tail {σ' σ:Store} (h:SubN σ' σ) (p:Nat×AObj):SubN σ' (p::σ):=
 ⟨λq F=>mem_cons_of_mem _ (h.1 q F),λE=>h.2 (by simp only[Store.keys,map_cons,nodup_cons]at E;exact E.2)⟩
theorem SubN.cons {σ' σ:Store} (h:SubN σ' σ) (p:Nat×AObj):SubN (p::σ') (p::σ):=
 ⟨λq F=>by
  rcases mem_cons.1 F with rfl|F
  ·simp
  ·exact mem_cons_of_mem _ (h.1 q F),
  λE=>by
  simp only[Store.keys,map_cons,nodup_cons]at E ⊢
  exact⟨λI=>E.1 (cj h.1 I),h.2 E.2⟩⟩
theorem Sat.subN {G:Glob} {σ σ' ρ:Store} {w:World} (h:Sat G (σ++ρ) w) (F:SubN σ' σ):Sat G (σ'++ρ) w:=by
 have I:=h.nodup
 rw[aB]at I
 obtain⟨N,O,T⟩:=nodup_append.1 I
 refine h.sub (λp E=>?_) ?_
 ·rcases mem_append.1 E with E|E
  ·exact mem_append.2 (.inl (F.1 p E))
  ·exact mem_append.2 (.inr E)
 ·rw[aB]
  exact nodup_append.2 ⟨F.2 N,O,λa J b M=>T a (cj F.1 J) b M⟩
theorem Weak.of {G:Glob} {env E:Env} {σ σ':Store} (M:dI env E) (F:SubN σ' σ):Weak G env σ E σ':=by
 intro ρ w tmps J I
 refine⟨J.subN F,Ev.of_sub F.1 w,λj=>?_⟩
 rcases M.get j with h|h
 ·rw[h];simp only[Rep]
 ·exact h.rep (Rep.ev (Ev.of_sub F.1 w) _ _ (I j))
theorem Weak.rfl' {G:Glob} (env:Env) (σ:Store):Weak G env σ env σ:=λ_ w _ F E=>⟨F,Ev.refl σ w,E⟩
theorem Weak.trans {G:Glob} {env E F:Env} {σ I J:Store} (h:Weak G env σ E I) (k:Weak G E I F J):Weak G env σ F J:=by
 intro ρ w tmps Z Y
 obtain⟨M,N,O⟩:=h ρ w tmps Z Y
 obtain⟨T,V,X⟩:=k ρ w tmps M O
 exact⟨T,N.trans V,X⟩
/-! ### calls -/
theorem aj.v {G:Glob} {P:Program} {k:FuncId} {args:List AV} {σ:Store} {R:AV->Store->Prop} (h:aj G P k args σ R):cn G P (.func (.func k) #[] #[]) args σ R:=
 ⟨k,#[],#[],rfl,by simpa using h⟩
def Pure (G:Glob) (P:Program) (k:FuncId) (args:List AV) (r:AV):Prop:=aj G P k args [] λx σ=>x=r/\σ=[]
def dV (G:Glob) (P:Program) (f:Value) (args:List AV) (r:AV):Prop:=cn G P f args [] λx σ=>x=r/\σ=[]
theorem Pure.v {G:Glob} {P:Program} {k:FuncId} {args:List AV} {r:AV} (h:Pure G P k args r):dV G P (.func (.func k) #[] #[]) args r:=aj.v h
theorem aP {G:Glob} {P:Program} {f:Value} {args:List AV} {σ:Store} {K:AV->Store->Prop} {t:Tag K} {R:AV->Store->Prop} {E:List AV} (F σr:Store)
  (h:cn G P f E F R) (M:aA args E) (I:SubN (F++σr) σ) (N:∀r σ',R r σ'->K r (σ'++σr)):CALL G P f args σ K t:=
 ⟨R,F,σr,E,.inl h,M,I.1,I.2,λr σ' J _=>N r σ' J⟩
theorem ay {G:Glob} {P:Program} {f:Value} {args:List AV} {σ:Store} {K:AV->Store->Prop} {t:Tag K} {R:AV->Store->Prop} {E:List AV} (F σr:Store)
  (h:cn G P f E F R) (J:aA args E) (I:SubN (F++σr) σ) (M:∀r σ',R r σ'->(σ'++σr:Store).keys.Nodup->K r (σ'++σr)):CALL G P f args σ K t:=
 ⟨R,F,σr,E,.inl h,J,I.1,I.2,M⟩
theorem CALL_x {G:Glob} {P:Program} {f:Value} {args:List AV} {σ:Store} {K:AV->Store->Prop} {t:Tag K} {R:AV->Store->Prop} {E:List AV} (F σr:Store)
  (h:XSpec G P f E F R) (M:aA args E) (I:SubN (F++σr) σ) (N:∀r σ',R r σ'->K r (σ'++σr)):CALL G P f args σ K t:=
 ⟨R,F,σr,E,.inr h,M,I.1,I.2,λr σ' J _=>N r σ' J⟩
theorem aD {G:Glob} {P:Program} {f:Value} {args:List AV} {σ:Store} {K:AV->Store->Prop} {t:Tag K} {r:AV}
  (h:dV G P f args r) (E:K r σ):CALL G P f args σ K t:=
 aP [] σ h (aA.rfl' _) (SubN.refl _) (by rintro _ _ ⟨rfl,rfl⟩;exact E)
theorem aa {G:Glob} {P:Program} {k:FuncId} {args:List AV} {σ:Store} {K:AV->Store->Prop} {t:Tag K} {r:AV}
  (h:Pure G P k args r) (E:K r σ):CALL G P (.func (.func k) #[] #[]) args σ K t:=aD h.v E
theorem aI {G:Glob} {P:Program} {k:FuncId} {args E:List AV} {σ:Store} {K:AV->Store->Prop} {t:Tag K} {r:AV}
  (h:Pure G P k E r) (F:aA args E) (I:K r σ):CALL G P (.func (.func k) #[] #[]) args σ K t:=
 aP [] σ h.v F (SubN.refl _) (by rintro _ _ ⟨rfl,rfl⟩;exact I)
/-! ### a callee's contract, weakened -/
theorem aj.mono {G:Glob} {P:Program} {k:FuncId} {args:List AV} {σ:Store} {R R':AV->Store->Prop} (h:aj G P k args σ R) (M:∀r σ',R r σ'->R' r σ'):aj G P k args σ R':=
 ⟨h.1,λρ w vs I E=>(h.2 ρ w vs I E).mono λ_ _ ⟨v,r,σ',J,F,rest⟩=>⟨v,r,σ',J,M _ _ F,rest⟩⟩
def SOpd.of:Operand->SOpd
 | .tmp i=>.t i
 | .const v=>.c (AV.ofValue v)
 | .func i=>.f i
 | .global i=>.g i
def aggD:TypeDesc->Bool
 | .struct _| .array _ _=>true
 |_=>false
section
variable (P:Program)
def aZ (t:TypeId):Option Nat:=(P.info? t).map (·.size)
def cu (t:TypeId):Option (List AV):=
 match (P.info? t).bind (·.zero)with
 |some z=>if z.cells.toList.all (·.oneCell')then some (z.cells.toList.map AV.ofOne)else none
 |none=>none
def eD (E:TypeId->Option (List Nat)):List Field->Nat->Option (List Nat)
 |[],_=>some []
 |f::fs,o=>if f.name== "_" ||f.offset != o then none else match E f.type with
  |some ks=>match eD E fs (o+ks.length)with
   |some ks'=>some (ks++ks')
   |none=>none
  |none=>none
def cX:Nat->TypeId->Option (List Nat)
 |0,_=>none
 |d+1,t=>
  match P.underlying t with
  |some .bool=>some [0]
  |some (.int _)=>some [1]
  |some .string=>some [2]
  |some (.struct fs)=>if P.stoodInHeld t then none else match eD (cX d) fs.toList 0 with
    |some ks=>if aZ P t==some ks.length then some ks else none
    |none=>none
  |_=>none
def mF (d:TypeDesc) (y:Operand):Option Nat:=
 match d,y with
 | .slice _,.const (.slice none 0 0)=>some 0
 | .map _ _,.const (.map none)=>some 1
 | .func _ _ _,.const .nilFunc=>some 2
 | .pointer _,.const (.pointer none)=>some 3
 |_,_=>none
def bj:Builtin->List Operand->List TypeId->Option SOp
 | .len,[x],[t]=>match P.underlying t with
  |some .string=>some (.lenS (SOpd.of x))
  |some (.slice _)=>some (.len (SOpd.of x))
  |_=>none
 | .append,[x,y],[t,t']=>match P.underlying t,P.underlying t' with
  |some (.slice e),some (.slice _)=>match P.info? e,cu P e with
   |some i,some z=>if z.length==i.size&&i.size != 0&&i.bytes != 0 then some (.append e i.size i.bytes (SOpd.of x) (SOpd.of y))else none
   |_,_=>none
  |_,_=>none
 |_,_,_=>none
def isNumOp:BinOp->Bool
 | .add| .sub| .mul| .quo| .rem| .eql| .neq| .lss| .leq| .gtr| .geq=>true
 |_=>false
def isStrOp:BinOp->Bool
 | .add| .eql| .neq| .lss| .leq| .gtr| .geq=>true
 |_=>false
def eqNeg:BinOp->Option Bool
 | .eql=>some false
 | .neq=>some true
 |_=>none
def eN (op:BinOp) (t:TypeId) (x y:Operand):Option SOp:=
 match P.underlying t with
 |some (.int _)=>if isNumOp op then some (.bin op (SOpd.of x) (SOpd.of y))else none
 |some .string=>if isStrOp op then some (.bin op (SOpd.of x) (SOpd.of y))else none
 |some .bool=>(eqNeg op).map λn=>.eqb n (SOpd.of x) (SOpd.of y)
 |some (.struct _)=>match cX P 8 t with
  |some ks=>if P.eqGuardType P.depth t then none else (eqNeg op).map λn=>.eqs n ks (SOpd.of x) (SOpd.of y)
  |none=>none
 |some d=>match mF d y with
  |some k=>(eqNeg op).map λn=>.eqnil k n (SOpd.of x)
  |none=>none
 |none=>none
def cW (t:TypeId) (x:Operand):Option SOp:=
 match P.underlying t,aZ P t with
 |some d,some n=>if aggD d||n==1 then some (.load (aggD d) n (SOpd.of x))else none
 |_,_=>none
def dw (t:TypeId) (parts:Array (Nat×Operand)):Option SOp:=
 match P.underlying t,cu P t with
 |some (.struct fs),some z=>if !(fs.toList.all λf=>(P.info? f.type).isSome)then none else (parts.toList.mapM λ(p:Nat×Operand)=>match fs[p.1]? with
   |some f=>(aZ P f.type).map λn=>(f.offset,n,SOpd.of p.2)
   |none=>none).map (.build z ·)
 |_,_=>none
def bG (t:TypeId) (x:Operand) (i:Nat):Option SOp:=
 match P.underlying t with
 |some (.struct fs)=>match fs[i]? with
  |some f=>match aZ P f.type with
   |some (_+1)=>some (.fieldA f.offset (SOpd.of x))
   |_=>none
  |none=>none
 |_=>none
def cQ (t:TypeId) (x i:Operand):Option SOp:=
 match P.underlying t with
 |some (.slice e)=>(aZ P e).map (.indexA · (SOpd.of x) (SOpd.of i))
 |some (.array len e)=>(aZ P e).map (.indexP len · (SOpd.of x) (SOpd.of i))
 |_=>none
def du (t:TypeId) (x i:Operand):Option SOp:=
 match P.underlying t with
 |some .string=>some (.index (SOpd.of x) (SOpd.of i))
 |_=>none
def dn (t:TypeId) (x:Operand) (lo hi:Option Operand):Option SOp:=
 match P.underlying t with
 |some (.slice e)=>(aZ P e).map (.slice · (SOpd.of x) (lo.map SOpd.of) (hi.map SOpd.of))
 |some .string=>some (.sliceS (SOpd.of x) (lo.map SOpd.of) (hi.map SOpd.of))
 |_=>none
def dA (t:TypeId) (x:Operand) (i:Nat):Option SOp:=
 match P.underlying t with
 |some (.struct fs)=>match fs[i]? with
  |some f=>match P.underlying f.type,aZ P f.type with
   |some d,some n=>if aggD d||n==1 then some (.field (aggD d) f.offset n (SOpd.of x))else none
   |_,_=>none
  |none=>none
 |_=>none
def d5 (E dst:TypeId) (x:Operand):Option SOp:=
 match P.underlying E,P.underlying dst with
 |some (.int _),some (.int k)=>some (.conv k (SOpd.of x))
 |some .string,some .string=>some (.str (SOpd.of x))
 |_,_=>none
def cR (t:TypeId) (len:Nat) (parts:Array (Nat×Operand)):Option SOp:=
 match P.underlying t with
 |some (.slice e)=>match aZ P e,cu P e with
  |some n,some z=>if z.length==n&&n != 0&&decide (len*n<=16777216)then some (.buildS e n len (List.replicate len z).flatten (parts.toList.map λ(p:Nat×Operand)=>(p.1,SOpd.of p.2)))else none
  |_,_=>none
 |_=>none
def eL (t:TypeId) (x:Operand):Option SOp:=
 match P.underlying t with
 |some (.interface _)=>none
 |some _=>some (.mkI t (SOpd.of x))
 |none=>none
def bN:Op->Option SOp
 | .move x=>some (.mov (SOpd.of x))
 | .assign x=>some (.mov (SOpd.of x))
 | .pick c a b=>some (.pick (SOpd.of c) (SOpd.of a) (SOpd.of b))
 | .nilCheck x=>some (.nilCheck (SOpd.of x))
 | .load t x=>cW P t x
 | .build t parts=>dw P t parts
 | .fieldAddr t x i=>bG P t x i
 | .indexAddr t x i=>cQ P t x i
 | .index t x i=>du P t x i
 | .slice t x lo hi mx=>if mx.isSome then none else dn P t x lo hi
 | .field t x i=>dA P t x i
 | .extract x i=>some (.extract i (SOpd.of x))
 | .binOp op t x y _=>eN P op t x y
 | .unOp op _ x=>match op with
  | .not=>some (.not (SOpd.of x))
  |_=>none
 | .convert src dst x=>d5 P src dst x
 | .makeFunc fn first cap=>some (.mkfun fn (first.toList.map SOpd.of) (cap.toList.map SOpd.of))
 | .alloc e=>(cu P e).map (.alloc e ·)
 | .box e x=>(aZ P e).map (.box e · (SOpd.of x))
 | .buildSlice t len parts=>cR P t len parts
 | .store t a x=>(aZ P t).map (.store · (SOpd.of a) (SOpd.of x))
 | .call c=>match c.callee with
  | .builtin b=>bj P b c.args.toList c.argTypes.toList
  | .value f=>some (.call (SOpd.of f) (c.args.toList.map SOpd.of))
  | .invoke r name=>some (.invoke (SOpd.of r) name (c.args.toList.map SOpd.of))
 | .makeInterface t x=>eL P t x
 |_=>none
def ec (ops:Array Oper):Option (Nat×Bool)->Option (Option (Nat×Bool))
 |none=>some none
 |some (j,b)=>((ops[j]?).bind (·.dst)).map λd=>some (d,b)
def df (n:Nat):Option Nat->Bool
 |none=>true
 |some d=>decide (d<n)
def roBox (F:Nat->Bool) (o:Oper) (E:SOp):SOp:=
 match o.op,o.dst with
 | .box e x,some d=>if F d then (match aZ P e with
  |some m=>.boxR m (SOpd.of x)
  |none=>E)else E
 |_,some d=>if F (1000000+d)then .raw o.op else E
 |_,_=>E
def d7 (n:Nat) (E:Nat->Bool) (ops:Array Oper) (o:Oper):Option SOper:=
 match ec ops o.guard,df n o.dst with
 |some g,true=>some ⟨o.dst,g,roBox P E o ((bN P o.op).getD (.raw o.op))⟩
 |_,_=>none
def bY (n:Nat) (E:Nat->Bool) (ops:Array Oper):List Oper->Option (List SOper)
 |[]=>some []
 |o::rest=>match d7 P n E ops o,bY n E ops rest with
  |some so,some sos=>some (so::sos)
  |_,_=>none
def bV (d:Option Nat) (E:List Nat) (keep:Bool):List Nat:=
 match d with
 |none=>E
 |some d=>if keep then d::E else E.filter λj=>!(j==d)
def gf (n:Nat) (I:Nat->Bool) (ops:Array Oper) (F:Array Bool) (E:List Nat) (i:Nat):Option (Nat×SOper×List Nat):=
 match ops[i]? with
 |none=>none
 |some o=>match d7 P n I ops o with
  |none=>none
  |some so=>if Region.free .any ops F i then
    match o.op with
    | .fieldAddr _ (.tmp p) _=>if so.op.slot then some (i,so,bV o.dst E (E.contains p))else none
    | .load t (.tmp p)=>if E.contains p then
      match P.underlying t,aZ P t with
      |some d,some m=>if aggD d||m==1 then some (i,{so with op:=.loadF (aggD d) m (.t p)},bV o.dst E false)else none
      |_,_=>none
     else none
    |_=>if so.op.slot then some (i,so,bV o.dst E false)else none
   else none
def j9 (n:Nat) (E:Nat->Bool) (ops:Array Oper):Nat->Array Bool->List Nat->Option (List SOper)
 |0,listed,_=>if (Region.ready .any ops listed).isEmpty then some []else none
 |f+1,listed,good=>
  if (Region.ready .any ops listed).isEmpty then some []else
  match (Region.ready .any ops listed).findSome? (gf P n E ops listed good)with
  |some (i,so,good')=>(j9 n E ops f (listed.setIfInBounds i true) good').map (so:: ·)
  |none=>match Region.ready .any ops listed with
   |[i]=>match (ops[i]?).bind (d7 P n E ops)with
    |some so=>(j9 n E ops f (listed.setIfInBounds i true) (bV so.dst good false)).map (so:: ·)
    |none=>none
   |_=>none
def allD:List (Option DT)->Option DT
 |[]=>none
 |x::xs=>match xs with
  |[]=>x
  |_::_=>match x,allD xs with
   |some a,some b=>some (.both a b)
   |_,_=>none
def ko (n:Nat) (E:Nat->Bool) (ops:Array Oper):Nat->Array Bool->List Nat->Option DT
 |0,listed,_=>if (Region.ready .any ops listed).isEmpty then some .done else none
 |f+1,listed,good=>
  if (Region.ready .any ops listed).isEmpty then some .done else
  match (Region.ready .any ops listed).findSome? (gf P n E ops listed good)with
  |some (i,so,good')=>(ko n E ops f (listed.setIfInBounds i true) good').map (.step so ·)
  |none=>allD ((Region.ready .any ops listed).map λi=>match (ops[i]?).bind (d7 P n E ops)with
   |some so=>(ko n E ops f (listed.setIfInBounds i true) (bV so.dst good false)).map (.step so ·)
   |none=>none)
def quietOp:SOp->Bool
 | .call _ _| .invoke _ _ _| .alloc _ _| .box _ _ _| .boxR _ _| .buildS _ _ _ _ _| .store _ _ _| .append _ _ _ _ _| .raw _=>false
 |_=>true
def jG (F:Nat->Bool) (ops:List Oper):List Nat:=
 (ops.flatMap λo=>o.op.operands.toList.flatMap λx=>match x with
  | .tmp t=>if F t&& !(ops.any λE=>E.dst==some t)then [t]else []
  |_=>[]).eraseDups
def gv (ops:Array Oper):List SOper->Nat->Array Bool->Bool
 |[],_,listed=>(Region.ready .any ops listed).isEmpty
 |so::l,k,listed=>((so.op.slot&&(Region.free .any ops listed k&&(Region.ready .any ops listed).contains k))||Region.ready .any ops listed==[k])&&gv ops l (k+1) (listed.setIfInBounds k true)
def trans (n:Nat) (keep:Nat->List Nat×Bool):Code->Option SCode
 | .skip=>some .skip
 | .region id ops false=>(bY P n (λd=>(keep (2000000+d)).2) ops ops.toList).map λE=>if (keep id).2 then .ghost E (keep id).1 else .region E (keep id).1
 | .region id ops true=>(bY P n (λd=>(keep (2000000+d)).2) ops ops.toList).map λE=>
   if P.follows .mixedOrders&&(Region.noSelect ops&&gv ops E 0 (Array.replicate ops.size false))then .drawL E (keep id).1
   else match (if P.follows .mixedOrders&&Region.noSelect ops then j9 P n (λd=>(keep (2000000+d)).2) ops ops.size (Array.replicate ops.size false) (jG (λd=>(keep (2000000+d)).2) ops.toList)else none)with
   |some sl=>.drawL sl (keep id).1
   |none=>if (P.follows .mixedOrders&&Region.lexB .any ops)&&E.all (λF=>quietOp F.op)then .draw E (keep id).1 else
    match (if P.follows .mixedOrders&&Region.noSelect ops then ko P n (λd=>(keep (2000000+d)).2) ops ops.size (Array.replicate ops.size false) (jG (λd=>(keep (2000000+d)).2) ops.toList)else none)with
    |some t=>.drawT t (keep id).1
    |none=>.bad
 | .seq a b=>match trans n keep a,trans n keep b with
  |some x,some y=>some (.seq x y)
  |_,_=>none
 | .cond c a b=>match trans n keep a,trans n keep b with
  |some x,some y=>some (.cond (SOpd.of c) x y)
  |_,_=>none
 | .block id a=>(trans n keep a).map λx=>.seq (.block id x) (.region [] (keep (id+1000000)).1)
 | .loop a=>(trans n keep a).map .loop
 | .exit id=>some (.exit id)
 | .ret=>some .ret
 |_=>some .bad
end
def Same (w w':World):Prop:=w.heap.size<=w'.heap.size/\∀b,b<w.heap.size->w'.heap[b]? =w.heap[b]?
theorem Same.refl (w:World):Same w w:=⟨Nat.le_refl _,λ_ _=>rfl⟩
theorem Same.cell {w w':World} (h:Same w w') {a:Addr} {v:Value} (E:w.cell? a=some v):w'.cell? a=some v:=by
 rw[World.cell?_of_block (w:=w) (h.2 a.block (fq E))];exact E
theorem Store.get_mem:∀{σ:Store} {b:Nat} {x:AObj},σ.get b=some x->(b,x)∈σ
 |[],b,x,h=>by simp[Store.get]at h
 |(k,y)::s,b,x,h=>by
  simp only[Store.get]at h
  by_cases E:k=b
  ·subst E;rw[if_pos rfl]at h;cases h;simp
  ·rw[if_neg E]at h;exact mem_cons_of_mem _ (Store.get_mem h)
section
variable {G:Glob} {P:Program} {τ:Store} {w:World} {env:Env} {a:Act}
theorem ar (F:Sat G τ w) (E:∀j,Rep τ w (env.get j) (a.tmps.getD j undef)) (x:Operand):Rep τ w ((SOpd.of x).eval G env) (a.eval x):=by
 cases x with
 |tmp i=>exact E i
 |const v=>exact Rep.ofValue τ w v
 |func f=>simp only[SOpd.of,SOpd.eval,Rep];rfl
 |global g=>
  simp only[SOpd.of,SOpd.eval]
  split
  ·rename_i cs h
   simp only[Rep]
   exact⟨⟨g,0,none⟩,rfl,G.tabs F.glob h⟩
  ·simp only[Rep];rfl
theorem lq (F:Sat G τ w) (E:∀j,Rep τ w (env.get j) (a.tmps.getD j undef)):∀xs:List Operand,RepL τ w ((xs.map SOpd.of).map (·.eval G env)) (xs.map a.eval)
 |[]=>by simp[RepL]
 |x::xs=>by
  simp only[map_cons,RepL]
  exact⟨_,_,rfl,ar F E x,lq F E xs⟩
theorem jK {I:Addr} {cs:List AV} (h:RepAt τ w I 0 cs) (n:Nat) (Z:n<=cs.length):
  ∃vs:List Value,vs.length=n/\RepL τ w (cs.take n) vs/\(∀v∈vs,v.oneCell'=true)/\(∀j v,vs[j]? =some v->w.cell? (I.add j)=some v):=by
 induction n with
 |zero=>exact⟨[],rfl,by simp[RepL],by simp,by simp⟩
 |succ n ih=>
  obtain⟨vs,M,N,O,T⟩:=ih (by omega)
  obtain⟨u,⟨J,_⟩,V,X⟩:=h.get n (by omega)
  rw[Nat.zero_add]at J
  refine⟨vs++[u],by simp[M],?_,?_,?_⟩
  ·rw[take_succ_eq_append_getElem (by omega)]
   exact RepL.append N (by simp only[RepL];exact⟨u,[],rfl,X,rfl⟩)
  ·intro v E
   rcases mem_append.1 E with E|E
   ·exact O v E
   ·simp at E;subst E;exact V
  ·intro j v E
   rw[getElem?_append]at E
   split at E
   ·exact T j v E
   ·rename_i Y
    have:j-vs.length=0:=by
     rcases Nat.eq_zero_or_pos (j-vs.length)with e|e
     ·exact e
     ·simp[show j-vs.length≠0 by omega]at E
    have F:j=n:=by omega
    subst F
    simp[this]at E
    subst E
    exact J
def isLoad:Op->Bool
 | .load _ _=>true
 |_=>false
def QOk (P:Program) (τ:Store) (w:World) (o:Oper) (a:Act) (K:AV->Prop):Prop:=
 ∃r u,K r/\Rep τ w r u/\∀w',(isLoad o.op=true->Same w w')->(execOp a.eval o).run P w'= .ok (.value u) w'
variable {o:Oper} {K:AV->Prop}
theorem q_mov {x:Operand} (E:o.op= .move x\/o.op= .assign x) (I:Sat G τ w) (F:∀j,Rep τ w (env.get j) (a.tmps.getD j undef)) (h:K ((SOpd.of x).eval G env)):QOk P τ w o a K:=
 ⟨_,a.eval x,h,ar I F x,λw' _=>by rcases E with E|E<;>simp[execOp,E]⟩
theorem q_pick {c x y:Operand} (J:o.op= .pick c x y) (I:Sat G τ w) (F:∀j,Rep τ w (env.get j) (a.tmps.getD j undef))
  (h:iW ((SOpd.of c).eval G env) ((SOpd.of x).eval G env) ((SOpd.of y).eval G env) K):QOk P τ w o a K:=by
 have E:=ar (G:=G) I F c
 unfold iW at h
 split at h
 ·rename_i t M
  rw[M]at E
  simp only[Rep]at E
  cases t with
  |true=>exact⟨_,a.eval x,h.1 rfl,ar I F x,λw' _=>by simp[execOp,J,E,asBool]⟩
  |false=>exact⟨_,a.eval y,h.2 rfl,ar I F y,λw' _=>by simp[execOp,J,E,asBool]⟩
 ·exact h.elim
theorem og {x:Operand} (I:o.op= .nilCheck x) (N:Sat G τ w) (M:∀j,Rep τ w (env.get j) (a.tmps.getD j undef))
  (h:nilAV ((SOpd.of x).eval G env) K):QOk P τ w o a K:=by
 have E:=ar (G:=G) N M x
 unfold nilAV at h
 split at h
 ·rename_i cs F
  rw[F]at E
  refine⟨_,a.eval x,h,E,λw' _=>?_⟩
  simp only[Rep]at E
  obtain⟨J,O,_⟩:=E
  simp[execOp,I,O]
 ·rename_i J F
  rw[F]at E
  refine⟨_,a.eval x,h,E,λw' _=>?_⟩
  simp only[Rep]at E
  simp[execOp,I,E]
 ·rename_i k fs cs F
  rw[F]at E
  refine⟨_,a.eval x,h,E,λw' _=>?_⟩
  simp only[Rep]at E
  simp[execOp,I,E]
 ·exact h.elim
theorem cq {d:TypeDesc} {t:TypeId} (E:P.underlying t=some d) (w':World):(isAgg t).run P w'= .ok (aggD d) w':=by
 unfold isAgg
 rw[Sem.run_bind,run_underlying E w']
 cases d<;>simp[aggD]
theorem ba {n:Nat} {t:TypeId} (E:aZ P t=some n) (w':World):(sizeOf t).run P w'= .ok n w':=by
 unfold aZ at E
 cases F:P.info? t with
 |none=>simp[F]at E
 |some i=>simp[F]at E;simp[sizeOf,typeInfo,F,E]
theorem iq {d:TypeDesc} {t:TypeId} {n:Nat} (O:P.underlying t=some d) (N:aZ P t=some n) (F:(aggD d||n==1)=true) (E:Addr) (vs:List Value) (M:vs.length=n) (w':World)
  (I:∀j v,vs[j]? =some v->w'.cell? (E.add j)=some v):(loadVar t E).run P w'= .ok (if aggD d then .agg vs.toArray else vs.headD undef) w':=by
 subst M
 unfold loadVar
 rw[Sem.run_bind,cq O]
 cases J:aggD d with
 |true=>simp[ba N,run_loadCells_list (P:=P) w' E vs I]
 |false=>
  simp[J]at F
  obtain⟨v,rfl⟩:∃v,vs=[v]:=by
   match vs,F with
   |[v],_=>exact⟨v,rfl⟩
  have:=I 0 v rfl
  have e:E.add 0=E:=by simp[Addr.add]
  rw[e]at this
  simp[this]
theorem nk {t:TypeId} {d:TypeDesc} {n:Nat} (hu:P.underlying t=some d) (hn:aZ P t=some n) (V:(aggD d||n==1)=true)
  {σ ρ:Store} (ac:τ=σ++ρ) (hS:Sat G τ w) {X:AV} {q:Value} (T:Rep τ w X q) (h:lJ σ (aggD d) n X K):
  ∃E r v,q= .pointer (some E)/\K r/\Rep τ w r v/\∀w',Same w w'->(loadVar t E).run P w'= .ok v w':=by
 have M:∀(E:Addr) (cs:List AV) (vs:List Value),q= .pointer (some E)->vs.length=n->RepL τ w (cs.take n) vs->(∀v∈vs,v.oneCell'=true)->
   (∀w',Same w w'->∀j v,vs[j]? =some v->w'.cell? (E.add j)=some v)->eE (aggD d) n cs K->∃E r v,q= .pointer (some E)/\K r/\Rep τ w r v/\∀w',Same w w'->(loadVar t E).run P w'= .ok v w':=by
  intro E cs vs Z hl F J hc hk
  refine⟨E,_,if aggD d then .agg vs.toArray else vs.headD undef,Z,hk.2,?_,λw' O=>?_⟩
  ·cases hd:aggD d with
   |true=>simp only[if_true,Rep];exact⟨vs.toArray,rfl,by simpa using J,by simpa using F⟩
   |false=>
    simp[hd]at V
    subst V
    match vs,hl with
    |[v],_=>
     match cs,hk.1 with
     |c::cs,_=>
      simp only[take_succ_cons,take_zero,RepL]at F
      obtain⟨u,us,e,h2,_⟩:=F
      simp only[List.cons.injEq]at e
      simp only[Bool.false_eq_true,if_false,headD_cons]
      rw[e.1];exact h2
  ·exact iq hu hn V E vs hl w' (hc w' O)
 unfold lJ at h
 split at h
 ·rename_i cs
  simp only[Rep]at T
  obtain⟨E,Z,F⟩:=T
  obtain⟨vs,l1,l2,l3,l4⟩:=jK F n h.1
  exact M E cs vs Z l1 l2 l3 (λw' O j v I=>O.cell (l4 j v I)) h
 ·rename_i b off
  simp only[Rep]at T
  unfold gj at h
  split at h
  ·rename_i e cs hg
   have hm:(b,AObj.cells e cs)∈τ:=by rw[ac];exact mem_append.2 (.inl (Store.get_mem hg))
   obtain⟨vs,hh,J,F⟩:=hS.obj b _ hm
   have N:=F.length
   have Y:n<=(cs.drop off).length:=h.1
   refine M ⟨b,off,none⟩ (cs.drop off) ((vs.toList.drop off).take n) T ?_ (RepL.take n (RepL.drop off F)) ?_ ?_ h
   ·simp at Y N ⊢;omega
   ·intro v I
    exact J v (mem_of_mem_drop (mem_of_mem_take I))
   ·intro w' O j v I
    rw[add_lit]
    have hb:w'.heap[b]? =some (.cells vs e (0,0)):=by rw[O.2 b (Array.getElem?_eq_some_iff.1 hh).1];exact hh
    rw[cell_of_row w' b (off+j) vs e (0,0) hb]
    rw[getElem?_take]at I
    split at I
    ·simpa using I
    ·cases I
  ·exact h.elim
 ·exact h.elim
theorem q_load {t:TypeId} {x:Operand} {d:TypeDesc} {n:Nat} (J:o.op= .load t x) (Z:P.underlying t=some d) (T:aZ P t=some n) (M:(aggD d||n==1)=true)
  {σ ρ:Store} (F:τ=σ++ρ) (I:Sat G τ w) (N:∀j,Rep τ w (env.get j) (a.tmps.getD j undef)) (h:lJ σ (aggD d) n ((SOpd.of x).eval G env) K):QOk P τ w o a K:=by
 obtain⟨ad,r,v,V,O,X,E⟩:=nk Z T M F I (ar (G:=G) I N x) h
 exact⟨r,v,O,X,λw' Y=>by simp[execOp,J,Instr.loadAt,V,Instr.sureAddr,E w' (Y (by rw[J];rfl))]⟩
end
theorem aR:∀(l:List AV) (o:Nat) (c:List AV),o+c.length<=l.length->splice l o c=l.take o++c++l.drop (o+c.length)
 |l,0,c,_=>by cases l<;>simp[splice]
 |[],o+1,c,h=>by simp at h
 |x::l,o+1,c,h=>by
  have:=aR l o c (by simp at h;omega)
  simp only[splice,this,take_succ_cons,cons_append]
  rw[show o+1+c.length=(o+c.length)+1 by omega,drop_succ_cons]
theorem kR (o:Nat):∀(vs:List Value) (i:Nat) (C:Array Value),o+i+vs.length<=C.size->
  ((vs.zipIdx i).foldl (λcs (x:Value×Nat)=>cs.setIfInBounds (o+x.2) x.1) C).toList=C.toList.take (o+i)++vs++C.toList.drop (o+i+vs.length)
 |[],i,C,_=>by simp
 |v::vs,i,C,h=>by
  simp only[zipIdx_cons,foldl_cons]
  rw[kR o vs (i+1) (C.setIfInBounds (o+i) v) (by simp at h ⊢;omega)]
  have hi:o+i<C.toList.length:=by simp at h ⊢;omega
  simp only[Array.toList_setIfInBounds,length_cons]
  rw[←Nat.add_assoc,show o+i+1+vs.length=o+i+(vs.length+1)by omega]
  rw[drop_set_of_lt (by omega),take_add_one,getElem?_set_self hi,take_set_of_le (Nat.le_refl _)]
  simp
section
variable {G:Glob} {P:Program} {τ:Store} {w:World} {env:Env} {a:Act} {o:Oper} {K:AV->Prop}
theorem fV {x:AV} {v:Value} {c:List AV} (I:AV.cells? x=some c) (h:Rep τ w x v):RepL τ w c v.cells.toList/\∀u∈v.cells.toList,u.oneCell'=true:=by
 have E:∀y:AV,Rep τ w y v->v.oneCell'=true->v.cells=#[v]->RepL τ w [y] v.cells.toList/\∀u∈v.cells.toList,u.oneCell'=true:=by
  intro y O J M
  rw[M]
  exact⟨by simp only[RepL];exact⟨v,[],rfl,O,rfl⟩,by simpa using J⟩
 cases x with
 |any=>simp[AV.cells?]at I
 |tup cs=>simp[AV.cells?]at I
 |agg cs=>
  simp[AV.cells?]at I
  subst I
  simp only[Rep]at h
  obtain⟨vs,rfl,J,M⟩:=h
  exact⟨by simpa[Value.cells]using M,by simpa[Value.cells]using J⟩
 |sc u=>
  simp only[AV.cells?]at I
  split at I
  ·rename_i J
   cases I
   have F:=h
   simp only[Rep]at F
   subst F
   refine E _ h J ?_
   cases v<;>first|rfl|exact absurd J (by simp[Value.oneCell'])
  ·cases I
 |bool b=>
  simp[AV.cells?]at I;subst I
  have F:=h;simp only[Rep]at F;subst F
  exact E _ h rfl rfl
 |int k n=>
  simp[AV.cells?]at I;subst I
  have F:=h;simp only[Rep]at F;subst F
  exact E _ h rfl rfl
 |str s=>
  simp[AV.cells?]at I;subst I
  have F:=h;simp only[Rep]at F;subst F
  exact E _ h rfl rfl
 |nil=>
  simp[AV.cells?]at I;subst I
  have F:=h;simp only[Rep]at F;subst F
  exact E _ h rfl rfl
 |lst sz rows=>
  simp[AV.cells?]at I;subst I
  have F:=h;simp only[Rep]at F
  rcases F with⟨F,_⟩|⟨N,cap,F,_⟩<;>subst F<;>exact E _ h rfl rfl
 |own b e sz rows=>
  simp[AV.cells?]at I;subst I
  have F:=h
  cases b with
  |none=>simp only[Rep]at F;obtain⟨F,_⟩:=F;subst F;exact E _ h rfl rfl
  |some b=>simp only[Rep]at F;obtain⟨cap,F,_⟩:=F;subst F;exact E _ h rfl rfl
 |ref cs=>
  simp[AV.cells?]at I;subst I
  have F:=h;simp only[Rep]at F
  obtain⟨N,F,_⟩:=F
  subst F
  exact E _ h rfl rfl
theorem or {cs c:List AV} {C:Array Value} {v:Value} {off n:Nat} (E:RepL τ w cs C.toList) (I:RepL τ w c v.cells.toList) (M:c.length=n) (F:off+n<=cs.length):
  RepL τ w (splice cs off c) (v.cells.zipIdx.foldl (λcs (x:Value×Nat)=>cs.setIfInBounds (off+x.2) x.1) C).toList:=by
 have N:=E.length
 have J:=I.length
 subst M
 have e:=kR off v.cells.toList 0 C (by simp at N J ⊢;omega)
 rw[←Array.foldl_toList,Array.toList_zipIdx]
 rw[e,aR cs off c F]
 simp only[Nat.add_zero]
 rw[J]
 exact RepL.append (RepL.append (RepL.take _ E) I) (RepL.drop _ E)
theorem kQ (F:Nat->Option (Nat×Nat)):∀(parts:List (Nat×Operand)) (E:List (Nat×Nat×SOpd)) (cs:List AV) (C:Array Value) (KL:List AV->Prop),
  (∀(j:Nat) p q,parts[j]? =some p->E[j]? =some q->F p.1=some (q.1,q.2.1)/\q.2.2=SOpd.of p.2)->parts.length=E.length->
  Sat G τ w->(∀j,Rep τ w (env.get j) (a.tmps.getD j undef))->RepL τ w cs C.toList->(∀v∈C.toList,v.oneCell'=true)->fR G env cs E KL->
  ∃C' cs',Instr.fill F C (parts.map λp=>(p.1,a.eval p.2))=some C'/\KL cs'/\RepL τ w cs' C'.toList/\∀v∈C'.toList,v.oneCell'=true
 |[],[],cs,C,KL,_,_,_,_,hC,J,h=>⟨C,cs,rfl,h,hC,J⟩
 |p::parts,q::E,cs,C,KL,hp,hl,hS,hE,hC,J,h=>by
  obtain⟨off,n,x⟩:=q
  obtain⟨M,V⟩:=hp 0 p _ rfl rfl
  simp only at M V
  subst V
  simp only[fR,bQ]at h
  split at h
  ·rename_i c Y
   obtain⟨Z,O,h⟩:=h
   obtain⟨r1,r2⟩:=fV Y (ar hS hE p.2)
   have l1:=hC.length
   have l2:=r1.length
   have T:(a.eval p.2).cells.size=n:=by simp at l2;omega
   have ac:off+(a.eval p.2).cells.size<=C.size:=by simp at l1;omega
   have N:=or (w:=w) hC r1 Z O
   obtain⟨C',cs',k1,k2,k3,k4⟩:=kQ F parts E (splice cs off c) _ KL (λj p q J X=>hp (j+1) p q J X) (by simpa using hl) hS hE N (by
    rw[←Array.foldl_toList,Array.toList_zipIdx,kR off _ 0 C (by simp;omega)]
    intro v I
    simp only[mem_append]at I
    rcases I with(I|I)|I
    ·exact J v (mem_of_mem_take I)
    ·exact r2 v I
    ·exact J v (mem_of_mem_drop I)) h
   refine⟨C',cs',?_,k2,k3,k4⟩
   simp only[map_cons,Instr.fill,M]
   rw[if_neg (by simp[T];omega)]
   exact k1
  ·exact h.elim
 |[],_::_,_,_,_,_,hl,_,_,_,_,_=>by simp at hl
 |_::_,[],_,_,_,_,hl,_,_,_,_,_=>by simp at hl
end
end Go.Av
