/-
  ABSTRACT VALUES, 5: weaker states; calls by what the callee does.
-/
import Derived.Test.YtnoakpkjccigoaaGreatDoorXAv4
import Derived.Deep.Quiet
import Derived.OrdersHeld
namespace Go.Av
open Go Go.RowKit List
set_option linter.unusedSimpArgs false
set_option linter.unusedVariables false
theorem Rep.ofOne (σ:Store) (w:World) (v:Value):Rep σ w (AV.ofOne v) v:=by
 cases v<;>first
  |(simp only[AV.ofOne,Rep];done)
  |skip
 case slice a n c=>
  cases a<;>cases n<;>cases c<;>simp only[AV.ofOne,Rep]
theorem RepL.ofOnes (σ:Store) (w:World):∀vs:List Value,RepL σ w (vs.map AV.ofOne) vs
 |[]=>by simp[RepL]
 |v::vs=>by simp only[map_cons,RepL];exact⟨v,vs,rfl,Rep.ofOne σ w v,RepL.ofOnes σ w vs⟩
theorem Rep.ofValue (σ:Store) (w:World) (v:Value):Rep σ w (AV.ofValue v) v:=by
 cases v with
 |agg cs=>
  simp only[AV.ofValue]
  split
  ·rename_i h
   simp only[Rep]
   exact⟨cs,rfl,λv hv=>all_eq_true.1 h v hv,RepL.ofOnes σ w _⟩
  ·simp only[Rep]
 |_=>simp only[AV.ofValue];exact Rep.ofOne σ w _
theorem RepL.ofValues (σ:Store) (w:World):∀vs:List Value,RepL σ w (vs.map AV.ofValue) vs
 |[]=>by simp[RepL]
 |v::vs=>by simp only[map_cons,RepL];exact⟨v,vs,rfl,Rep.ofValue σ w v,RepL.ofValues σ w vs⟩
theorem aR.rfl' (x:AV):aR x x:=Or.inl rfl
theorem AVle.rfl' (x:AV):AVle x x:=Or.inl (Or.inl rfl)
theorem ax.rfl':∀xs:List AV,ax xs xs
 |[]=>trivial
 |x::xs=>⟨AVle.rfl' x,ax.rfl' xs⟩
theorem aR.rep {σ:Store} {w:World} {x y:AV} (h:aR x y) {u:Value} (hr:Rep σ w x u):Rep σ w y u:=by
 rcases h with rfl|h
 ·exact hr
 ·cases y with
  |any=>simp only[Rep]
  |lst sz' r'=>
   cases x with
   |own b e sz r=>
    obtain⟨rfl,rfl⟩:=h
    cases b with
    |none=>simp only[Rep]at*;exact .inl hr
    |some b=>
     simp only[Rep]at*
     obtain⟨cap,h1,h2,h3,h4,h5⟩:=hr
     exact .inr ⟨_,cap,h1,h2,h3,h5⟩
   |nil=>
    have h:r'=[]:=h
    simp only[Rep]at*
    exact .inl ⟨hr,h⟩
   |_=>exact h.elim
  |own g e sz r=>
   cases x with
   |nil=>
    obtain⟨rfl,rfl⟩:=h
    simp only[Rep]at*
    exact⟨hr,trivial⟩
   |_=>exact h.elim
  |nil=>
   cases x with
   |own g e sz r=>
    have h:g=none:=h
    subst h
    simp only[Rep]at*
    exact hr.1
   |_=>exact h.elim
  |sc v=>
   cases x with
   |nil=>
    have h:v= .slice none 0 0:=h
    subst h
    simp only[Rep]at*
    exact hr
   |_=>exact h.elim
  |_=>cases x<;>exact h.elim
theorem bc.rep {σ:Store} {w:World}:∀{xs ys:List AV},bc xs ys->∀{us:List Value},RepL σ w xs us->RepL σ w ys us
 |[],[],_,us,h=>h
 |x::xs,y::ys,hl,us,h=>by
  simp only[RepL]at*
  obtain⟨u,us',rfl,h2,h3⟩:=h
  exact⟨u,us',rfl,hl.1.rep h2,bc.rep hl.2 h3⟩
 |[],_::_,h,_,_=>h.elim
 |_::_,[],h,_,_=>h.elim
theorem AVle.rep {σ:Store} {w:World} {x y:AV} (h:AVle x y) {u:Value} (hr:Rep σ w x u):Rep σ w y u:=by
 rcases h with h|h
 ·exact h.rep hr
 ·cases x<;>cases y<;>first
   |exact h.elim
   |skip
  ·simp only[Rep]at*
   obtain⟨vs,h1,h2,h3⟩:=hr
   exact⟨vs,h1,h2,bc.rep h h3⟩
  ·simp only[Rep]at*
   obtain⟨vs,h1,h3⟩:=hr
   exact⟨vs,h1,bc.rep h h3⟩
theorem ax.rep {σ:Store} {w:World}:∀{xs ys:List AV},ax xs ys->∀{us:List Value},RepL σ w xs us->RepL σ w ys us
 |[],[],_,us,h=>h
 |x::xs,y::ys,hl,us,h=>by
  simp only[RepL]at*
  obtain⟨u,us',rfl,h2,h3⟩:=h
  exact⟨u,us',rfl,hl.1.rep h2,ax.rep hl.2 h3⟩
 |[],_::_,h,_,_=>h.elim
 |_::_,[],h,_,_=>h.elim
/-! ### weaker states -/
def eJ (env:Env):Env->Prop
 |[]=>True
 |(k,x)::e=>AVle (env.get k) x/\eJ env e
theorem eJ.get {env:Env}:∀{env':Env},eJ env env'->∀j,env'.get j= .any\/AVle (env.get j) (env'.get j)
 |[],_,j=>.inl rfl
 |(k,x)::e,h,j=>by
  simp only[Env.get]
  by_cases hk:k=j
  ·subst hk;rw[if_pos rfl];exact .inr h.1
  ·rw[if_neg hk];exact eJ.get h.2 j
def SubN (σ' σ:Store):Prop:=Sub σ' σ/\(σ.keys.Nodup->σ'.keys.Nodup)
theorem SubN.refl (σ:Store):SubN σ σ:=⟨λ_ h=>h,λh=>h⟩
theorem SubN.nil (σ:Store):SubN [] σ:=⟨λ_ h=>by simp at h,λ_=>by simp[Store.keys]⟩
theorem SubN.tail {σ' σ:Store} (h:SubN σ' σ) (p:Nat×AObj):SubN σ' (p::σ):=
 ⟨λq hq=>mem_cons_of_mem _ (h.1 q hq),λhn=>h.2 (by simp only[Store.keys,map_cons,nodup_cons]at hn;exact hn.2)⟩
theorem SubN.cons {σ' σ:Store} (h:SubN σ' σ) (p:Nat×AObj):SubN (p::σ') (p::σ):=
 ⟨λq hq=>by
  rcases mem_cons.1 hq with rfl|hq
  ·simp
  ·exact mem_cons_of_mem _ (h.1 q hq),
  λhn=>by
  simp only[Store.keys,map_cons,nodup_cons]at hn ⊢
  exact⟨λhm=>hn.1 (ct h.1 hm),h.2 hn.2⟩⟩
theorem Sat.subN {G:Glob} {σ σ' ρ:Store} {w:World} (h:Sat G (σ++ρ) w) (hs:SubN σ' σ):Sat G (σ'++ρ) w:=by
 have h0:=h.nodup
 rw[az]at h0
 obtain⟨n1,n2,n3⟩:=nodup_append.1 h0
 refine h.sub (λp hp=>?_) ?_
 ·rcases mem_append.1 hp with hp|hp
  ·exact mem_append.2 (.inl (hs.1 p hp))
  ·exact mem_append.2 (.inr hp)
 ·rw[az]
  exact nodup_append.2 ⟨hs.2 n1,n2,λa ha b hb=>n3 a (ct hs.1 ha) b hb⟩
theorem Weak.of {G:Glob} {env env':Env} {σ σ':Store} (he:eJ env env') (hs:SubN σ' σ):Weak G env σ env' σ':=by
 intro ρ w tmps hS hE
 refine⟨hS.subN hs,Ev.of_sub hs.1 w,λj=>?_⟩
 rcases he.get j with h|h
 ·rw[h];simp only[Rep]
 ·exact h.rep (Rep.ev (Ev.of_sub hs.1 w) _ _ (hE j))
theorem Weak.rfl' {G:Glob} (env:Env) (σ:Store):Weak G env σ env σ:=λ_ w _ hS hE=>⟨hS,Ev.refl σ w,hE⟩
theorem Weak.trans {G:Glob} {env env1 env2:Env} {σ σ1 σ2:Store} (h:Weak G env σ env1 σ1) (k:Weak G env1 σ1 env2 σ2):Weak G env σ env2 σ2:=by
 intro ρ w tmps hS hE
 obtain⟨a1,a2,a3⟩:=h ρ w tmps hS hE
 obtain⟨b1,b2,b3⟩:=k ρ w tmps a1 a3
 exact⟨b1,a2.trans b2,b3⟩
/-! ### calls -/
theorem ag.v {G:Glob} {P:Program} {k:FuncId} {args:List AV} {σ:Store} {R:AV->Store->Prop} (h:ag G P k args σ R):cd G P (.func (.func k) #[] #[]) args σ R:=
 ⟨k,#[],#[],rfl,by simpa using h⟩
def Pure (G:Glob) (P:Program) (k:FuncId) (args:List AV) (r:AV):Prop:=ag G P k args [] λx σ=>x=r/\σ=[]
def eZ (G:Glob) (P:Program) (f:Value) (args:List AV) (r:AV):Prop:=cd G P f args [] λx σ=>x=r/\σ=[]
theorem Pure.v {G:Glob} {P:Program} {k:FuncId} {args:List AV} {r:AV} (h:Pure G P k args r):eZ G P (.func (.func k) #[] #[]) args r:=ag.v h
theorem aZ {G:Glob} {P:Program} {f:Value} {args:List AV} {σ:Store} {K:AV->Store->Prop} {t:Tag K} {R:AV->Store->Prop} {args':List AV} (σf σr:Store)
  (h:cd G P f args' σf R) (ha:ax args args') (hs:SubN (σf++σr) σ) (hk:∀r σ',R r σ'->K r (σ'++σr)):CALL G P f args σ K t:=
 ⟨R,σf,σr,args',.inl h,ha,hs.1,hs.2,λr σ' h1 _=>hk r σ' h1⟩
theorem av {G:Glob} {P:Program} {f:Value} {args:List AV} {σ:Store} {K:AV->Store->Prop} {t:Tag K} {R:AV->Store->Prop} {args':List AV} (σf σr:Store)
  (h:cd G P f args' σf R) (ha:ax args args') (hs:SubN (σf++σr) σ) (hk:∀r σ',R r σ'->(σ'++σr:Store).keys.Nodup->K r (σ'++σr)):CALL G P f args σ K t:=
 ⟨R,σf,σr,args',.inl h,ha,hs.1,hs.2,hk⟩
theorem CALL_x {G:Glob} {P:Program} {f:Value} {args:List AV} {σ:Store} {K:AV->Store->Prop} {t:Tag K} {R:AV->Store->Prop} {args':List AV} (σf σr:Store)
  (h:XSpec G P f args' σf R) (ha:ax args args') (hs:SubN (σf++σr) σ) (hk:∀r σ',R r σ'->K r (σ'++σr)):CALL G P f args σ K t:=
 ⟨R,σf,σr,args',.inr h,ha,hs.1,hs.2,λr σ' h1 _=>hk r σ' h1⟩
theorem aI {G:Glob} {P:Program} {f:Value} {args:List AV} {σ:Store} {K:AV->Store->Prop} {t:Tag K} {r:AV}
  (h:eZ G P f args r) (hk:K r σ):CALL G P f args σ K t:=
 aZ [] σ h (ax.rfl' _) (SubN.refl _) (by rintro _ _ ⟨rfl,rfl⟩;exact hk)
theorem aa {G:Glob} {P:Program} {k:FuncId} {args:List AV} {σ:Store} {K:AV->Store->Prop} {t:Tag K} {r:AV}
  (h:Pure G P k args r) (hk:K r σ):CALL G P (.func (.func k) #[] #[]) args σ K t:=aI h.v hk
theorem aE {G:Glob} {P:Program} {k:FuncId} {args args':List AV} {σ:Store} {K:AV->Store->Prop} {t:Tag K} {r:AV}
  (h:Pure G P k args' r) (ha:ax args args') (hk:K r σ):CALL G P (.func (.func k) #[] #[]) args σ K t:=
 aZ [] σ h.v ha (SubN.refl _) (by rintro _ _ ⟨rfl,rfl⟩;exact hk)
/-! ### a callee's contract, weakened -/
theorem ag.mono {G:Glob} {P:Program} {k:FuncId} {args:List AV} {σ:Store} {R R':AV->Store->Prop} (h:ag G P k args σ R) (hr:∀r σ',R r σ'->R' r σ'):ag G P k args σ R':=
 ⟨h.1,λρ w vs hS hA=>(h.2 ρ w vs hS hA).mono λ_ _ ⟨v,r,σ',he,hR,rest⟩=>⟨v,r,σ',he,hr _ _ hR,rest⟩⟩
def SOpd.of:Operand->SOpd
 | .tmp i=>.t i
 | .const v=>.c (AV.ofValue v)
 | .func i=>.f i
 | .global i=>.g i
def aggD:TypeDesc->Bool
 | .struct _| .array _ _=>true
 |_=>false
section
variable (P:Program)
def bj (t:TypeId):Option Nat:=(P.info? t).map (·.size)
def cK (t:TypeId):Option (List AV):=
 match (P.info? t).bind (·.zero)with
 |some z=>if z.cells.toList.all (·.oneCell')then some (z.cells.toList.map AV.ofOne)else none
 |none=>none
def eP (ft:TypeId->Option (List Nat)):List Field->Nat->Option (List Nat)
 |[],_=>some []
 |f::fs,o=>if f.name== "_" ||f.offset != o then none else match ft f.type with
  |some ks=>match eP ft fs (o+ks.length)with
   |some ks'=>some (ks++ks')
   |none=>none
  |none=>none
def du:Nat->TypeId->Option (List Nat)
 |0,_=>none
 |d+1,t=>
  match P.underlying t with
  |some .bool=>some [0]
  |some (.int _)=>some [1]
  |some .string=>some [2]
  |some (.struct fs)=>if P.stoodInHeld t then none else match eP (du d) fs.toList 0 with
    |some ks=>if bj P t==some ks.length then some ks else none
    |none=>none
  |_=>none
def mG (d:TypeDesc) (y:Operand):Option Nat:=
 match d,y with
 | .slice _,.const (.slice none 0 0)=>some 0
 | .map _ _,.const (.map none)=>some 1
 | .func _ _ _,.const .nilFunc=>some 2
 | .pointer _,.const (.pointer none)=>some 3
 |_,_=>none
def bC:Builtin->List Operand->List TypeId->Option SOp
 | .len,[x],[t]=>match P.underlying t with
  |some .string=>some (.lenS (SOpd.of x))
  |some (.slice _)=>some (.len (SOpd.of x))
  |_=>none
 | .append,[x,y],[t,t']=>match P.underlying t,P.underlying t' with
  |some (.slice e),some (.slice _)=>match P.info? e,cK P e with
   |some i,some z=>if z.length==i.size&&i.size != 0&&i.bytes != 0 then some (.append e i.size i.bytes (SOpd.of x) (SOpd.of y))else none
   |_,_=>none
  |_,_=>none
 |_,_,_=>none
def isNumOp:BinOp->Bool
 | .add| .sub| .mul| .quo| .rem| .eql| .neq| .lss| .leq| .gtr| .geq=>true
 |_=>false
def isStrOp:BinOp->Bool
 | .add| .eql| .neq| .lss| .leq| .gtr| .geq=>true
 |_=>false
def eqNeg:BinOp->Option Bool
 | .eql=>some false
 | .neq=>some true
 |_=>none
def eY (op:BinOp) (t:TypeId) (x y:Operand):Option SOp:=
 match P.underlying t with
 |some (.int _)=>if isNumOp op then some (.bin op (SOpd.of x) (SOpd.of y))else none
 |some .string=>if isStrOp op then some (.bin op (SOpd.of x) (SOpd.of y))else none
 |some .bool=>(eqNeg op).map λn=>.eqb n (SOpd.of x) (SOpd.of y)
 |some (.struct _)=>match du P 8 t with
  |some ks=>if P.eqGuardType P.depth t then none else (eqNeg op).map λn=>.eqs n ks (SOpd.of x) (SOpd.of y)
  |none=>none
 |some d=>match mG d y with
  |some k=>(eqNeg op).map λn=>.eqnil k n (SOpd.of x)
  |none=>none
 |none=>none
def da (t:TypeId) (x:Operand):Option SOp:=
 match P.underlying t,bj P t with
 |some d,some n=>if aggD d||n==1 then some (.load (aggD d) n (SOpd.of x))else none
 |_,_=>none
def dA (t:TypeId) (parts:Array (Nat×Operand)):Option SOp:=
 match P.underlying t,cK P t with
 |some (.struct fs),some z=>if !(fs.toList.all λf=>(P.info? f.type).isSome)then none else (parts.toList.mapM λ(p:Nat×Operand)=>match fs[p.1]? with
   |some f=>(bj P f.type).map λn=>(f.offset,n,SOpd.of p.2)
   |none=>none).map (.build z ·)
 |_,_=>none
def bM (t:TypeId) (x:Operand) (i:Nat):Option SOp:=
 match P.underlying t with
 |some (.struct fs)=>match fs[i]? with
  |some f=>match bj P f.type with
   |some (_+1)=>some (.fieldA f.offset (SOpd.of x))
   |_=>none
  |none=>none
 |_=>none
def cY (t:TypeId) (x i:Operand):Option SOp:=
 match P.underlying t with
 |some (.slice e)=>(bj P e).map (.indexA · (SOpd.of x) (SOpd.of i))
 |some (.array len e)=>(bj P e).map (.indexP len · (SOpd.of x) (SOpd.of i))
 |_=>none
def dw (t:TypeId) (x i:Operand):Option SOp:=
 match P.underlying t with
 |some .string=>some (.index (SOpd.of x) (SOpd.of i))
 |_=>none
def dz (t:TypeId) (x:Operand) (lo hi:Option Operand):Option SOp:=
 match P.underlying t with
 |some (.slice e)=>(bj P e).map (.slice · (SOpd.of x) (lo.map SOpd.of) (hi.map SOpd.of))
 |some .string=>some (.sliceS (SOpd.of x) (lo.map SOpd.of) (hi.map SOpd.of))
 |_=>none
def dE (t:TypeId) (x:Operand) (i:Nat):Option SOp:=
 match P.underlying t with
 |some (.struct fs)=>match fs[i]? with
  |some f=>match P.underlying f.type,bj P f.type with
   |some d,some n=>if aggD d||n==1 then some (.field (aggD d) f.offset n (SOpd.of x))else none
   |_,_=>none
  |none=>none
 |_=>none
def ee (src dst:TypeId) (x:Operand):Option SOp:=
 match P.underlying src,P.underlying dst with
 |some (.int _),some (.int k)=>some (.conv k (SOpd.of x))
 |some .string,some .string=>some (.str (SOpd.of x))
 |_,_=>none
def cZ (t:TypeId) (len:Nat) (parts:Array (Nat×Operand)):Option SOp:=
 match P.underlying t with
 |some (.slice e)=>match bj P e,cK P e with
  |some n,some z=>if z.length==n&&n != 0&&decide (len*n<=16777216)then some (.buildS e n len (List.replicate len z).flatten (parts.toList.map λ(p:Nat×Operand)=>(p.1,SOpd.of p.2)))else none
  |_,_=>none
 |_=>none
def fj (t:TypeId) (x:Operand):Option SOp:=
 match P.underlying t with
 |some (.interface _)=>none
 |some _=>some (.mkI t (SOpd.of x))
 |none=>none
def bQ:Op->Option SOp
 | .move x=>some (.mov (SOpd.of x))
 | .assign x=>some (.mov (SOpd.of x))
 | .pick c a b=>some (.pick (SOpd.of c) (SOpd.of a) (SOpd.of b))
 | .nilCheck x=>some (.nilCheck (SOpd.of x))
 | .load t x=>da P t x
 | .build t parts=>dA P t parts
 | .fieldAddr t x i=>bM P t x i
 | .indexAddr t x i=>cY P t x i
 | .index t x i=>dw P t x i
 | .slice t x lo hi mx=>if mx.isSome then none else dz P t x lo hi
 | .field t x i=>dE P t x i
 | .extract x i=>some (.extract i (SOpd.of x))
 | .binOp op t x y _=>eY P op t x y
 | .unOp op _ x=>match op with
  | .not=>some (.not (SOpd.of x))
  |_=>none
 | .convert src dst x=>ee P src dst x
 | .makeFunc fn first cap=>some (.mkfun fn (first.toList.map SOpd.of) (cap.toList.map SOpd.of))
 | .alloc e=>(cK P e).map (.alloc e ·)
 | .box e x=>(bj P e).map (.box e · (SOpd.of x))
 | .buildSlice t len parts=>cZ P t len parts
 | .store t a x=>(bj P t).map (.store · (SOpd.of a) (SOpd.of x))
 | .call c=>match c.callee with
  | .builtin b=>bC P b c.args.toList c.argTypes.toList
  | .value f=>some (.call (SOpd.of f) (c.args.toList.map SOpd.of))
  | .invoke r name=>some (.invoke (SOpd.of r) name (c.args.toList.map SOpd.of))
 | .makeInterface t x=>fj P t x
 |_=>none
def ej (ops:Array Oper):Option (Nat×Bool)->Option (Option (Nat×Bool))
 |none=>some none
 |some (j,b)=>((ops[j]?).bind (·.dst)).map λd=>some (d,b)
def dr (n:Nat):Option Nat->Bool
 |none=>true
 |some d=>decide (d<n)
def roBox (ro:Nat->Bool) (o:Oper) (so:SOp):SOp:=
 match o.op,o.dst with
 | .box e x,some d=>if ro d then (match bj P e with
  |some m=>.boxR m (SOpd.of x)
  |none=>so)else so
 |_,some d=>if ro (1000000+d)then .raw o.op else so
 |_,_=>so
def d9 (n:Nat) (ro:Nat->Bool) (ops:Array Oper) (o:Oper):Option SOper:=
 match ej ops o.guard,dr n o.dst with
 |some g,true=>some ⟨o.dst,g,roBox P ro o ((bQ P o.op).getD (.raw o.op))⟩
 |_,_=>none
def ci (n:Nat) (ro:Nat->Bool) (ops:Array Oper):List Oper->Option (List SOper)
 |[]=>some []
 |o::rest=>match d9 P n ro ops o,ci n ro ops rest with
  |some so,some sos=>some (so::sos)
  |_,_=>none
def ca (d:Option Nat) (good:List Nat) (keep:Bool):List Nat:=
 match d with
 |none=>good
 |some d=>if keep then d::good else good.filter λj=>!(j==d)
def gz (n:Nat) (ro:Nat->Bool) (ops:Array Oper) (listed:Array Bool) (good:List Nat) (i:Nat):Option (Nat×SOper×List Nat):=
 match ops[i]? with
 |none=>none
 |some o=>match d9 P n ro ops o with
  |none=>none
  |some so=>if Region.free .any ops listed i then
    match o.op with
    | .fieldAddr _ (.tmp p) _=>if so.op.slot then some (i,so,ca o.dst good (good.contains p))else none
    | .load t (.tmp p)=>if good.contains p then
      match P.underlying t,bj P t with
      |some d,some m=>if aggD d||m==1 then some (i,{so with op:=.loadF (aggD d) m (.t p)},ca o.dst good false)else none
      |_,_=>none
     else none
    |_=>if so.op.slot then some (i,so,ca o.dst good false)else none
   else none
def j7 (n:Nat) (ro:Nat->Bool) (ops:Array Oper):Nat->Array Bool->List Nat->Option (List SOper)
 |0,listed,_=>if (Region.ready .any ops listed).isEmpty then some []else none
 |f+1,listed,good=>
  if (Region.ready .any ops listed).isEmpty then some []else
  match (Region.ready .any ops listed).findSome? (gz P n ro ops listed good)with
  |some (i,so,good')=>(j7 n ro ops f (listed.setIfInBounds i true) good').map (so:: ·)
  |none=>match Region.ready .any ops listed with
   |[i]=>match (ops[i]?).bind (d9 P n ro ops)with
    |some so=>(j7 n ro ops f (listed.setIfInBounds i true) (ca so.dst good false)).map (so:: ·)
    |none=>none
   |_=>none
def allD:List (Option DT)->Option DT
 |[]=>none
 |x::xs=>match xs with
  |[]=>x
  |_::_=>match x,allD xs with
   |some a,some b=>some (.both a b)
   |_,_=>none
def jZ (n:Nat) (ro:Nat->Bool) (ops:Array Oper):Nat->Array Bool->List Nat->Option DT
 |0,listed,_=>if (Region.ready .any ops listed).isEmpty then some .done else none
 |f+1,listed,good=>
  if (Region.ready .any ops listed).isEmpty then some .done else
  match (Region.ready .any ops listed).findSome? (gz P n ro ops listed good)with
  |some (i,so,good')=>(jZ n ro ops f (listed.setIfInBounds i true) good').map (.step so ·)
  |none=>allD ((Region.ready .any ops listed).map λi=>match (ops[i]?).bind (d9 P n ro ops)with
   |some so=>(jZ n ro ops f (listed.setIfInBounds i true) (ca so.dst good false)).map (.step so ·)
   |none=>none)
def quietOp:SOp->Bool
 | .call _ _| .invoke _ _ _| .alloc _ _| .box _ _ _| .boxR _ _| .buildS _ _ _ _ _| .store _ _ _| .append _ _ _ _ _| .raw _=>false
 |_=>true
def jT (ro:Nat->Bool) (ops:List Oper):List Nat:=
 (ops.flatMap λo=>o.op.operands.toList.flatMap λx=>match x with
  | .tmp t=>if ro t&& !(ops.any λo'=>o'.dst==some t)then [t]else []
  |_=>[]).eraseDups
def gt (ops:Array Oper):List SOper->Nat->Array Bool->Bool
 |[],_,listed=>(Region.ready .any ops listed).isEmpty
 |so::l,k,listed=>((so.op.slot&&(Region.free .any ops listed k&&(Region.ready .any ops listed).contains k))||Region.ready .any ops listed==[k])&&gt ops l (k+1) (listed.setIfInBounds k true)
def trans (n:Nat) (keep:Nat->List Nat×Bool):Code->Option SCode
 | .skip=>some .skip
 | .region id ops false=>(ci P n (λd=>(keep (2000000+d)).2) ops ops.toList).map λsos=>if (keep id).2 then .ghost sos (keep id).1 else .region sos (keep id).1
 | .region id ops true=>(ci P n (λd=>(keep (2000000+d)).2) ops ops.toList).map λsos=>
   if P.follows .mixedOrders&&(Region.noSelect ops&&gt ops sos 0 (Array.replicate ops.size false))then .drawL sos (keep id).1
   else match (if P.follows .mixedOrders&&Region.noSelect ops then j7 P n (λd=>(keep (2000000+d)).2) ops ops.size (Array.replicate ops.size false) (jT (λd=>(keep (2000000+d)).2) ops.toList)else none)with
   |some sl=>.drawL sl (keep id).1
   |none=>if (P.follows .mixedOrders&&Region.lexB .any ops)&&sos.all (λso=>quietOp so.op)then .draw sos (keep id).1 else
    match (if P.follows .mixedOrders&&Region.noSelect ops then jZ P n (λd=>(keep (2000000+d)).2) ops ops.size (Array.replicate ops.size false) (jT (λd=>(keep (2000000+d)).2) ops.toList)else none)with
    |some t=>.drawT t (keep id).1
    |none=>.bad
 | .seq a b=>match trans n keep a,trans n keep b with
  |some x,some y=>some (.seq x y)
  |_,_=>none
 | .cond c a b=>match trans n keep a,trans n keep b with
  |some x,some y=>some (.cond (SOpd.of c) x y)
  |_,_=>none
 | .block id a=>(trans n keep a).map λx=>.seq (.block id x) (.region [] (keep (id+1000000)).1)
 | .loop a=>(trans n keep a).map .loop
 | .exit id=>some (.exit id)
 | .ret=>some .ret
 |_=>some .bad
end
def Same (w w':World):Prop:=w.heap.size<=w'.heap.size/\∀b,b<w.heap.size->w'.heap[b]? =w.heap[b]?
theorem Same.refl (w:World):Same w w:=⟨Nat.le_refl _,λ_ _=>rfl⟩
theorem Same.cell {w w':World} (h:Same w w') {a:Addr} {v:Value} (hc:w.cell? a=some v):w'.cell? a=some v:=by
 rw[World.cell?_of_block (w:=w) (h.2 a.block (fv hc))];exact hc
theorem Store.get_mem:∀{σ:Store} {b:Nat} {x:AObj},σ.get b=some x->(b,x)∈σ
 |[],b,x,h=>by simp[Store.get]at h
 |(k,y)::s,b,x,h=>by
  simp only[Store.get]at h
  by_cases hk:k=b
  ·subst hk;rw[if_pos rfl]at h;cases h;simp
  ·rw[if_neg hk]at h;exact mem_cons_of_mem _ (Store.get_mem h)
section
variable {G:Glob} {P:Program} {τ:Store} {w:World} {env:Env} {a:Act}
theorem ao (hS:Sat G τ w) (hE:∀j,Rep τ w (env.get j) (a.tmps.getD j undef)) (x:Operand):Rep τ w ((SOpd.of x).eval G env) (a.eval x):=by
 cases x with
 |tmp i=>exact hE i
 |const v=>exact Rep.ofValue τ w v
 |func f=>simp only[SOpd.of,SOpd.eval,Rep];rfl
 |global g=>
  simp only[SOpd.of,SOpd.eval]
  split
  ·rename_i cs h
   simp only[Rep]
   exact⟨⟨g,0,none⟩,rfl,G.tabs hS.glob h⟩
  ·simp only[Rep];rfl
theorem lB (hS:Sat G τ w) (hE:∀j,Rep τ w (env.get j) (a.tmps.getD j undef)):∀xs:List Operand,RepL τ w ((xs.map SOpd.of).map (·.eval G env)) (xs.map a.eval)
 |[]=>by simp[RepL]
 |x::xs=>by
  simp only[map_cons,RepL]
  exact⟨_,_,rfl,ao hS hE x,lB hS hE xs⟩
theorem iO {ad:Addr} {cs:List AV} (h:RepAt τ w ad 0 cs) (n:Nat) (hn:n<=cs.length):
  ∃vs:List Value,vs.length=n/\RepL τ w (cs.take n) vs/\(∀v∈vs,v.oneCell'=true)/\(∀j v,vs[j]? =some v->w.cell? (ad.add j)=some v):=by
 induction n with
 |zero=>exact⟨[],rfl,by simp[RepL],by simp,by simp⟩
 |succ n ih=>
  obtain⟨vs,h1,h2,h3,h4⟩:=ih (by omega)
  obtain⟨u,⟨hu,_⟩,ho,hr⟩:=h.get n (by omega)
  rw[Nat.zero_add]at hu
  refine⟨vs++[u],by simp[h1],?_,?_,?_⟩
  ·rw[take_succ_eq_append_getElem (by omega)]
   exact RepL.append h2 (by simp only[RepL];exact⟨u,[],rfl,hr,rfl⟩)
  ·intro v hv
   rcases mem_append.1 hv with hv|hv
   ·exact h3 v hv
   ·simp at hv;subst hv;exact ho
  ·intro j v hv
   rw[getElem?_append]at hv
   split at hv
   ·exact h4 j v hv
   ·rename_i hj
    have:j-vs.length=0:=by
     rcases Nat.eq_zero_or_pos (j-vs.length)with e|e
     ·exact e
     ·simp[show j-vs.length≠0 by omega]at hv
    have hj2:j=n:=by omega
    subst hj2
    simp[this]at hv
    subst hv
    exact hu
def isLoad:Op->Bool
 | .load _ _=>true
 |_=>false
def QOk (P:Program) (τ:Store) (w:World) (o:Oper) (a:Act) (K:AV->Prop):Prop:=
 ∃r u,K r/\Rep τ w r u/\∀w',(isLoad o.op=true->Same w w')->(execOp a.eval o).run P w'= .ok (.value u) w'
variable {o:Oper} {K:AV->Prop}
theorem q_mov {x:Operand} (ho:o.op= .move x\/o.op= .assign x) (hS:Sat G τ w) (hE:∀j,Rep τ w (env.get j) (a.tmps.getD j undef)) (h:K ((SOpd.of x).eval G env)):QOk P τ w o a K:=
 ⟨_,a.eval x,h,ao hS hE x,λw' _=>by rcases ho with ho|ho<;>simp[execOp,ho]⟩
theorem q_pick {c x y:Operand} (ho:o.op= .pick c x y) (hS:Sat G τ w) (hE:∀j,Rep τ w (env.get j) (a.tmps.getD j undef))
  (h:jg ((SOpd.of c).eval G env) ((SOpd.of x).eval G env) ((SOpd.of y).eval G env) K):QOk P τ w o a K:=by
 have hc:=ao (G:=G) hS hE c
 unfold jg at h
 split at h
 ·rename_i t ht
  rw[ht]at hc
  simp only[Rep]at hc
  cases t with
  |true=>exact⟨_,a.eval x,h.1 rfl,ao hS hE x,λw' _=>by simp[execOp,ho,hc,asBool]⟩
  |false=>exact⟨_,a.eval y,h.2 rfl,ao hS hE y,λw' _=>by simp[execOp,ho,hc,asBool]⟩
 ·exact h.elim
theorem pi {x:Operand} (ho:o.op= .nilCheck x) (hS:Sat G τ w) (hE:∀j,Rep τ w (env.get j) (a.tmps.getD j undef))
  (h:nilAV ((SOpd.of x).eval G env) K):QOk P τ w o a K:=by
 have hx:=ao (G:=G) hS hE x
 unfold nilAV at h
 split at h
 ·rename_i cs he
  rw[he]at hx
  refine⟨_,a.eval x,h,hx,λw' _=>?_⟩
  simp only[Rep]at hx
  obtain⟨ad,hu,_⟩:=hx
  simp[execOp,ho,hu]
 ·rename_i ad he
  rw[he]at hx
  refine⟨_,a.eval x,h,hx,λw' _=>?_⟩
  simp only[Rep]at hx
  simp[execOp,ho,hx]
 ·rename_i k fs cs he
  rw[he]at hx
  refine⟨_,a.eval x,h,hx,λw' _=>?_⟩
  simp only[Rep]at hx
  simp[execOp,ho,hx]
 ·exact h.elim
theorem cy {d:TypeDesc} {t:TypeId} (hu:P.underlying t=some d) (w':World):(isAgg t).run P w'= .ok (aggD d) w':=by
 unfold isAgg
 rw[Sem.run_bind,run_underlying hu w']
 cases d<;>simp[aggD]
theorem bv {n:Nat} {t:TypeId} (hn:bj P t=some n) (w':World):(sizeOf t).run P w'= .ok n w':=by
 unfold bj at hn
 cases hq:P.info? t with
 |none=>simp[hq]at hn
 |some i=>simp[hq]at hn;simp[sizeOf,typeInfo,hq,hn]
theorem iN {d:TypeDesc} {t:TypeId} {n:Nat} (hu:P.underlying t=some d) (hn:bj P t=some n) (h1:(aggD d||n==1)=true) (ad:Addr) (vs:List Value) (hl:vs.length=n) (w':World)
  (hv:∀j v,vs[j]? =some v->w'.cell? (ad.add j)=some v):(loadVar t ad).run P w'= .ok (if aggD d then .agg vs.toArray else vs.headD undef) w':=by
 subst hl
 unfold loadVar
 rw[Sem.run_bind,cy hu]
 cases hd:aggD d with
 |true=>simp[bv hn,run_loadCells_list (P:=P) w' ad vs hv]
 |false=>
  simp[hd]at h1
  obtain⟨v,rfl⟩:∃v,vs=[v]:=by
   match vs,h1 with
   |[v],_=>exact⟨v,rfl⟩
  have:=hv 0 v rfl
  have e:ad.add 0=ad:=by simp[Addr.add]
  rw[e]at this
  simp[this]
theorem mV {t:TypeId} {d:TypeDesc} {n:Nat} (hu:P.underlying t=some d) (hn:bj P t=some n) (h1:(aggD d||n==1)=true)
  {σ ρ:Store} (hτ:τ=σ++ρ) (hS:Sat G τ w) {X:AV} {q:Value} (hx:Rep τ w X q) (h:l6 σ (aggD d) n X K):
  ∃ad r v,q= .pointer (some ad)/\K r/\Rep τ w r v/\∀w',Same w w'->(loadVar t ad).run P w'= .ok v w':=by
 have fin:∀(ad:Addr) (cs:List AV) (vs:List Value),q= .pointer (some ad)->vs.length=n->RepL τ w (cs.take n) vs->(∀v∈vs,v.oneCell'=true)->
   (∀w',Same w w'->∀j v,vs[j]? =some v->w'.cell? (ad.add j)=some v)->eV (aggD d) n cs K->∃ad r v,q= .pointer (some ad)/\K r/\Rep τ w r v/\∀w',Same w w'->(loadVar t ad).run P w'= .ok v w':=by
  intro ad cs vs hp hl hr ho1 hc hk
  refine⟨ad,_,if aggD d then .agg vs.toArray else vs.headD undef,hp,hk.2,?_,λw' hs=>?_⟩
  ·cases hd:aggD d with
   |true=>simp only[if_true,Rep];exact⟨vs.toArray,rfl,by simpa using ho1,by simpa using hr⟩
   |false=>
    simp[hd]at h1
    subst h1
    match vs,hl with
    |[v],_=>
     match cs,hk.1 with
     |c::cs,_=>
      simp only[take_succ_cons,take_zero,RepL]at hr
      obtain⟨u,us,e,h2,_⟩:=hr
      simp only[List.cons.injEq]at e
      simp only[Bool.false_eq_true,if_false,headD_cons]
      rw[e.1];exact h2
  ·exact iN hu hn h1 ad vs hl w' (hc w' hs)
 unfold l6 at h
 split at h
 ·rename_i cs
  simp only[Rep]at hx
  obtain⟨ad,hp,hr⟩:=hx
  obtain⟨vs,l1,l2,l3,l4⟩:=iO hr n h.1
  exact fin ad cs vs hp l1 l2 l3 (λw' hs j v hv=>hs.cell (l4 j v hv)) h
 ·rename_i b off
  simp only[Rep]at hx
  unfold gJ at h
  split at h
  ·rename_i e cs hg
   have hm:(b,AObj.cells e cs)∈τ:=by rw[hτ];exact mem_append.2 (.inl (Store.get_mem hg))
   obtain⟨vs,hh,ho1,hr⟩:=hS.obj b _ hm
   have hlen:=hr.length
   have hle:n<=(cs.drop off).length:=h.1
   refine fin ⟨b,off,none⟩ (cs.drop off) ((vs.toList.drop off).take n) hx ?_ (RepL.take n (RepL.drop off hr)) ?_ ?_ h
   ·simp at hle hlen ⊢;omega
   ·intro v hv
    exact ho1 v (mem_of_mem_drop (mem_of_mem_take hv))
   ·intro w' hs j v hv
    rw[add_lit]
    have hb:w'.heap[b]? =some (.cells vs e (0,0)):=by rw[hs.2 b (Array.getElem?_eq_some_iff.1 hh).1];exact hh
    rw[cell_of_row w' b (off+j) vs e (0,0) hb]
    rw[getElem?_take]at hv
    split at hv
    ·simpa using hv
    ·cases hv
  ·exact h.elim
 ·exact h.elim
theorem q_load {t:TypeId} {x:Operand} {d:TypeDesc} {n:Nat} (ho:o.op= .load t x) (hu:P.underlying t=some d) (hn:bj P t=some n) (h1:(aggD d||n==1)=true)
  {σ ρ:Store} (hτ:τ=σ++ρ) (hS:Sat G τ w) (hE:∀j,Rep τ w (env.get j) (a.tmps.getD j undef)) (h:l6 σ (aggD d) n ((SOpd.of x).eval G env) K):QOk P τ w o a K:=by
 obtain⟨ad,r,v,hp,hk,hr,hrun⟩:=mV hu hn h1 hτ hS (ao (G:=G) hS hE x) h
 exact⟨r,v,hk,hr,λw' hs=>by simp[execOp,ho,Instr.loadAt,hp,Instr.sureAddr,hrun w' (hs (by rw[ho];rfl))]⟩
end
end Go.Av
