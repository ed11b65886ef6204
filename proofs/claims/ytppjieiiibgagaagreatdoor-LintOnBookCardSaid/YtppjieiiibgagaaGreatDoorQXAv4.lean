/-
  ABSTRACT VALUES, 4: the same as equations, one for each form, for a walk by rewriting. A continuation bears a tag, so that rewriting does not enter it.
-/
import Derived.Test.YtppjieiiibgagaaGreatDoorQXAv1toXAv3
set_option linter.all false
namespace Go.Av
open Go Go.RowKit List
section
structure Tag.{u} {α:Sort u} (a:α):Type where
section
variable {G:Glob} {P:Program} {env:Env} {σ:Store}
def W (G:Glob) (P:Program) (c:SCode) (Q:Exit->Env->Store->Prop) (env:Env) (σ:Store) (_t:Tag Q):Prop:=swp G P c Q env σ
def SR (G:Glob) (P:Program) (ops:List SOper) (env:Env) (σ:Store) (K:Env->Store->Prop) (_t:Tag K):Prop:=srun G P ops env σ K
def TR (G:Glob) (P:Program) (t:DT) (env:Env) (σ:Store) (K:Env->Store->Prop) (_t:Tag K):Prop:=trun G P t env σ K
def QR (G:Glob) (P:Program) (ops:List SOper) (env:Env) (σ:Store) (K:Env->Prop) (_t:Tag K):Prop:=qrun G P ops env σ K
def AO (G:Glob) (P:Program) (D:SOp) (env:Env) (σ:Store) (K:AV->Store->Prop) (_t:Tag K):Prop:=aop G P D env σ K
def AQ (G:Glob) (P:Program) (D:SOp) (env:Env) (σ:Store) (K:AV->Prop) (_t:Tag K):Prop:=aqc G P D env σ K
def NR (K:Env->Store->Prop) (Q:Exit->Env->Store->Prop) (_t:Tag K) (_u:Tag Q):Exit->Env->Store->Prop:=fT K Q
def BL (i:Nat) (Q:Exit->Env->Store->Prop) (_u:Tag Q):Exit->Env->Store->Prop:=k7 i Q
def gd_ (x:AV) (b:Bool) (A B C:Prop) (_a:Tag A) (_b:Tag B) (_c:Tag C):Prop:=gd x b A B C
def ka (x:AV) (A B:Prop) (_a:Tag A) (_b:Tag B):Prop:=match x with| .bool t=>(t=true->A)/\(t=false->B)|_=>False
def CALL (G:Glob) (P:Program) (f:Value) (args:List AV) (σ:Store) (K:AV->Store->Prop) (_t:Tag K):Prop:=mq G P f args σ K
def INV (G:Glob) (P:Program) (v:Value) (name:String) (args:List AV) (σ:Store) (K:AV->Store->Prop) (_t:Tag K):Prop:=AInv G P v name args σ K
def RAW (G:Glob) (P:Program) (op:Op) (env:Env) (σ:Store) (K:AV->Store->Prop) (_t:Tag K):Prop:=RawOp G P op env σ K
def QCALL (G:Glob) (P:Program) (f:Value) (args:List AV) (K:AV->Prop) (_t:Tag K):Prop:=AQCall G P f args K
def bL (op:BinOp) (x y:AV) (K:AV->Prop) (_t:Tag K):Prop:=fj op x y K
def fU (G:Glob) (env:Env) (n:Nat) (x:AV) (lo hi:Option SOpd) (K:AV->Prop) (_t:Tag K):Prop:=kR G env n x lo hi K
def rowsOf_ (x:AV) (K:Nat->List (List AV)->Prop) (_t:Tag K):Prop:=j9 x K
def bf (x:AV) (K:List AV->Prop) (_t:Tag K):Prop:=co x K
def gB (agg:Bool) (n:Nat) (cs:List AV) (K:AV->Prop) (_t:Tag K):Prop:=fR agg n cs K
def gr (c x y:AV) (K:AV->Prop) (_t:Tag K):Prop:=j6 c x y K
def mM (x:AV) (K:AV->Prop) (_t:Tag K):Prop:=nilAV x K
def mr (o:Option AObj) (K:TypeId->List AV->Prop) (_t:Tag K):Prop:=iD o K
def lL (σ:Store) (agg:Bool) (n:Nat) (x:AV) (K:AV->Prop) (_t:Tag K):Prop:=nk σ agg n x K
def jT (n:Nat) (x i:AV) (K:AV->Prop) (_t:Tag K):Prop:=oD n x i K
def refX_ (x:AV) (K:List AV->Prop) (_t:Tag K):Prop:=refX x K
def il (n:Nat) (x:AV) (K:AV->Prop) (_t:Tag K):Prop:=dG n x K
def jy (x:AV) (K:Int->Prop) (_t:Tag K):Prop:=intX x K
def jP (x:AV) (K:List UInt8->Prop) (_t:Tag K):Prop:=strX x K
def mf (x:AV) (K:List AV->Prop) (_t:Tag K):Prop:=aggX x K
def tupX_ (n:Nat) (x:AV) (K:AV->Prop) (_t:Tag K):Prop:=tupX n x K
def jl (x:AV) (K:Bool->Prop) (_t:Tag K):Prop:=i6 x K
def eqsX_ (b:Bool) (ks:List Nat) (xs ys:List AV) (K:AV->Prop) (_t:Tag K):Prop:=eqsX b ks xs ys K
def eB (kind:Nat) (b:Bool) (x:AV) (K:AV->Prop) (_t:Tag K):Prop:=jt kind b x K
def eqvX_ (b:Bool) (r:Option Bool) (K:AV->Prop) (_t:Tag K):Prop:=match r with|some r=>K (.bool (if b then !r else r))|none=>False
def convX_ (k:IntKind) (x:AV) (K:AV->Prop) (_t:Tag K):Prop:=convX k x K
def nC (x:AV) (K:AV->Prop) (_t:Tag K):Prop:=lenX x K
def scX_ (x:AV) (K:Value->Prop) (_t:Tag K):Prop:=scX x K
def l9 (G:Glob) (env:Env) (xs:List SOpd) (K:List Value->Prop) (_t:Tag K):Prop:=scsX G env xs K
def ownX_ (e:TypeId) (n:Nat) (x:AV) (K:Option Nat->List (List AV)->Prop) (_t:Tag K):Prop:=ownX e n x K
def srcX_ (n:Nat) (x:AV) (K:List (List AV)->Prop) (_t:Tag K):Prop:=srcX n x K
def ptrX_ (x:AV) (K:Nat->Nat->Prop) (_t:Tag K):Prop:=ptrX x K
def newX_ (σ:Store) (K:Nat->Prop) (_t:Tag K):Prop:=newX σ K
def iG (G:Glob) (env:Env) (cs:List AV) (ps:List (Nat×Nat×SOpd)) (K:List AV->Prop) (_t:Tag K):Prop:=g7 G env cs ps K
def ec (G:Glob) (env:Env) (d:Int) (x:Option SOpd) (K:Int->Prop) (_t:Tag K):Prop:=fi G env d x K
variable {Q:Exit->Env->Store->Prop} {K:AV->Store->Prop} {K1:AV->Prop} {KE:Env->Store->Prop} {KQ:Env->Prop}
variable {KL:List AV->Prop} {KI:Int->Prop} {KB:Bool->Prop} {KR:Nat->List (List AV)->Prop} {KS:List UInt8->Prop} {KV:Value->Prop} {KVs:List Value->Prop} {KT:TypeId->List AV->Prop}
variable {KO:Option Nat->List (List AV)->Prop} {KRs:List (List AV)->Prop} {KP:Nat->Nat->Prop} {KN:Nat->Prop}
variable {tQ:Tag Q} {tK:Tag K} {t1:Tag K1} {tE:Tag KE} {tq:Tag KQ} {tL:Tag KL} {tI:Tag KI} {tB:Tag KB} {tR:Tag KR} {tS:Tag KS} {tV:Tag KV} {tVs:Tag KVs} {tT:Tag KT} {tO:Tag KO} {tRs:Tag KRs} {tP:Tag KP} {tN:Tag KN}
def re {A B:Prop} {D:Tag A} {E:Tag B}:ka (.bool true) A B D E=(A):=by simp[ka]
def pI {A B:Prop} {D:Tag A} {E:Tag B}:ka (.bool false) A B D E=(B):=by simp[ka]
def W_skip:W G P .skip Q env σ tQ=(Q .normal env σ):=(rfl)
def W_region {ops:List SOper} {ks:List Nat}:W G P (.region ops ks) Q env σ tQ=(SR G P ops env σ (λenv σ=>Q .normal (env.keep ks) σ) ⟨⟩):=(rfl)
def W_drawL {ops:List SOper} {ks:List Nat}:W G P (.drawL ops ks) Q env σ tQ=(SR G P ops env σ (λenv σ=>Q .normal (env.keep ks) σ) ⟨⟩):=(rfl)
def W_draw {ops:List SOper} {ks:List Nat}:W G P (.draw ops ks) Q env σ tQ=(QR G P ops env σ (λenv=>Q .normal (env.keep ks) σ) ⟨⟩):=(rfl)
def W_ghost {ops:List SOper} {ks:List Nat}:W G P (.ghost ops ks) Q env σ tQ=(SR G P ops env σ (λenv σ=>∃D σ',Weak G (env.keep ks) σ D σ'/\Q .normal D σ') ⟨⟩):=(rfl)
def W_seq {a b:SCode}:W G P (.seq a b) Q env σ tQ=(W G P a (NR (λenv σ=>W G P b Q env σ ⟨⟩) Q ⟨⟩ ⟨⟩) env σ ⟨⟩):=(rfl)
def W_block {i:Nat} {a:SCode}:W G P (.block i a) Q env σ tQ=(W G P a (BL i Q ⟨⟩) env σ ⟨⟩):=(rfl)
def W_exit {i:Nat}:W G P (.exit i) Q env σ tQ=(Q (.exit i) env σ):=(rfl)
def W_ret:W G P .ret Q env σ tQ=(Q .ret env σ):=(rfl)
def W_bad:W G P .bad Q env σ tQ=(False):=(rfl)
def AO_raw {op:Op}:AO G P (.raw op) env σ K tK=(RAW G P op env σ K ⟨⟩):=(rfl)
def AO_bad:AO G P .bad env σ K tK=(False):=(rfl)
def AQ_bad:AQ G P .bad env σ K1 t1=(False):=(rfl)
def W_cond {c:SOpd} {a b:SCode}:W G P (.cond c a b) Q env σ tQ=(ka (c.eval G env) (W G P a Q env σ ⟨⟩) (W G P b Q env σ ⟨⟩) ⟨⟩ ⟨⟩):=(rfl)
def NR_normal:NR KE Q tE tQ .normal env σ=(KE env σ):=(rfl)
def NR_exit {i:Nat}:NR KE Q tE tQ (.exit i) env σ=(Q (.exit i) env σ):=(rfl)
def NR_ret:NR KE Q tE tQ .ret env σ=(Q .ret env σ):=(rfl)
def BL_normal {i:Nat}:BL i Q tQ .normal env σ=(Q .normal env σ):=(rfl)
def ox {i:Nat}:BL i Q tQ (.exit i) env σ=(Q .normal env σ):=by simp[BL,k7]
def BL_exit {i j:Nat}:BL i Q tQ (.exit j) env σ=(if j=i then Q .normal env σ else Q (.exit j) env σ):=(rfl)
def BL_ret {i:Nat}:BL i Q tQ .ret env σ=(Q .ret env σ):=(rfl)
def SR_nil:SR G P [] env σ KE tE=(KE env σ):=(rfl)
def SR_none {d:Option Nat} {D:SOp} {rest:List SOper}:SR G P (⟨d,none,D⟩::rest) env σ KE tE=(AO G P D env σ (λr σ'=>SR G P rest (env.put d r) σ' KE ⟨⟩) ⟨⟩):=(rfl)
def SR_some {d:Option Nat} {j:Nat} {b:Bool} {D:SOp} {rest:List SOper}:SR G P (⟨d,some (j,b),D⟩::rest) env σ KE tE=(gd_ (env.get j) b (AO G P D (env.set j (.bool b)) σ (λr σ'=>SR G P rest ((env.set j (.bool b)).put d r) σ' KE ⟨⟩) ⟨⟩)
   (SR G P rest ((env.set j (.bool (!b))).put d aG) σ KE ⟨⟩) (SR G P rest (env.put d aG) σ KE ⟨⟩) ⟨⟩ ⟨⟩ ⟨⟩):=(rfl)
def QR_nil:QR G P [] env σ KQ tq=(KQ env):=(rfl)
def QR_none {d:Option Nat} {D:SOp} {rest:List SOper}:QR G P (⟨d,none,D⟩::rest) env σ KQ tq=(AQ G P D env σ (λr=>QR G P rest (env.put d r) σ KQ ⟨⟩) ⟨⟩):=(rfl)
def QR_some {d:Option Nat} {j:Nat} {b:Bool} {D:SOp} {rest:List SOper}:QR G P (⟨d,some (j,b),D⟩::rest) env σ KQ tq=(gd_ (env.get j) b (AQ G P D (env.set j (.bool b)) σ (λr=>QR G P rest ((env.set j (.bool b)).put d r) σ KQ ⟨⟩) ⟨⟩)
   (QR G P rest ((env.set j (.bool (!b))).put d aG) σ KQ ⟨⟩) (QR G P rest (env.put d aG) σ KQ ⟨⟩) ⟨⟩ ⟨⟩ ⟨⟩):=(rfl)
def gd_undef {b:Bool} {A B C:Prop} {D:Tag A} {E:Tag B} {F:Tag C}:gd_ aG b A B C D E F=(C):=(rfl)
def gd_tt {A B C:Prop} {D:Tag A} {E:Tag B} {F:Tag C}:gd_ (.bool true) true A B C D E F=(A):=by simp[gd_,gd]
def gd_tf {A B C:Prop} {D:Tag A} {E:Tag B} {F:Tag C}:gd_ (.bool true) false A B C D E F=(B):=by simp[gd_,gd]
def gd_ft {A B C:Prop} {D:Tag A} {E:Tag B} {F:Tag C}:gd_ (.bool false) true A B C D E F=(B):=by simp[gd_,gd]
def gd_ff {A B C:Prop} {D:Tag A} {E:Tag B} {F:Tag C}:gd_ (.bool false) false A B C D E F=(A):=by simp[gd_,gd]
def put_none {r:AV}:Env.put env none r=(env):=(rfl)
def put_some {d:Nat} {r:AV}:Env.put env (some d) r=(env.set d r):=(rfl)
def set_nil {d:Nat} {r:AV}:Env.set [] d r=([(d,r)]):=(rfl)
def set_cons {k d:Nat} {x r:AV}:Env.set ((k,x)::env) d r=(if k=d then (k,r)::env else (k,x)::Env.set env d r):=(rfl)
def get_nil {d:Nat}:Env.get [] d=(.any):=(rfl)
def get_cons {k d:Nat} {x:AV}:Env.get ((k,x)::env) d=(if k=d then x else Env.get env d):=(rfl)
def keep_nil {ks:List Nat}:Env.keep ks []=([]):=(rfl)
def keep_cons {k:Nat} {x:AV} {ks:List Nat}:Env.keep ks ((k,x)::env)=(if ks.contains k then (k,x)::Env.keep ks env else Env.keep ks env):=by simp only[Env.keep,filter_cons]
def sget_nil {b:Nat}:Store.get [] b=(none):=(rfl)
def sget_cons {k b:Nat} {x:AObj}:Store.get ((k,x)::σ) b=(if k=b then some x else Store.get σ b):=(rfl)
def sset_nil {b:Nat} {y:AObj}:Store.set [] b y=([]):=(rfl)
def sset_cons {k b:Nat} {x y:AObj}:Store.set ((k,x)::σ) b y=(if k=b then (k,y)::σ else (k,x)::Store.set σ b y):=(rfl)
def eval_t {i:Nat}:SOpd.eval G env (.t i)=(env.get i):=(rfl)
def eval_c {v:AV}:SOpd.eval G env (.c v)=(v):=(rfl)
def eval_f {i:Nat}:SOpd.eval G env (.f i)=(.sc (.func (.func i) #[] #[])):=(rfl)
def AO_mov {x:SOpd}:AO G P (.mov x) env σ K tK=((λr=>K r σ) (x.eval G env)):=(rfl)
def AQ_mov {x:SOpd}:AQ G P (.mov x) env σ K1 t1=((K1) (x.eval G env)):=(rfl)
def AO_pick {c a b:SOpd}:AO G P (.pick c a b) env σ K tK=(gr (c.eval G env) (a.eval G env) (b.eval G env) (λr=>K r σ) ⟨⟩):=(rfl)
def AQ_pick {c a b:SOpd}:AQ G P (.pick c a b) env σ K1 t1=(gr (c.eval G env) (a.eval G env) (b.eval G env) (K1) ⟨⟩):=(rfl)
def p7 {x:SOpd}:AO G P (.nilCheck x) env σ K tK=(mM (x.eval G env) (λr=>K r σ) ⟨⟩):=(rfl)
def pj {x:SOpd}:AQ G P (.nilCheck x) env σ K1 t1=(mM (x.eval G env) (K1) ⟨⟩):=(rfl)
def AO_load {agg:Bool} {n:Nat} {x:SOpd}:AO G P (.load agg n x) env σ K tK=(lL σ agg n (x.eval G env) (λr=>K r σ) ⟨⟩):=(rfl)
def AQ_load {agg:Bool} {n:Nat} {x:SOpd}:AQ G P (.load agg n x) env σ K1 t1=(lL σ agg n (x.eval G env) (K1) ⟨⟩):=(rfl)
def AO_build {zero:List AV} {parts:List (Nat×Nat×SOpd)}:AO G P (.build zero parts) env σ K tK=(iG G env zero parts (λcs=>(λr=>K r σ) (.agg cs)) ⟨⟩):=(rfl)
def AQ_build {zero:List AV} {parts:List (Nat×Nat×SOpd)}:AQ G P (.build zero parts) env σ K1 t1=(iG G env zero parts (λcs=>(K1) (.agg cs)) ⟨⟩):=(rfl)
def AO_fieldA {n:Nat} {x:SOpd}:AO G P (.fieldA n x) env σ K tK=(il n (x.eval G env) (λr=>K r σ) ⟨⟩):=(rfl)
def AQ_fieldA {n:Nat} {x:SOpd}:AQ G P (.fieldA n x) env σ K1 t1=(il n (x.eval G env) (K1) ⟨⟩):=(rfl)
def AO_indexA {n:Nat} {x i:SOpd}:AO G P (.indexA n x i) env σ K tK=(jT n (x.eval G env) (i.eval G env) (λr=>K r σ) ⟨⟩):=(rfl)
def AQ_indexA {n:Nat} {x i:SOpd}:AQ G P (.indexA n x i) env σ K1 t1=(jT n (x.eval G env) (i.eval G env) (K1) ⟨⟩):=(rfl)
def AO_indexP {m n:Nat} {x i:SOpd}:AO G P (.indexP m n x i) env σ K tK=(jy (i.eval G env) (λk=>0<=k/\k<m/\il (k.toNat*n) (x.eval G env) (λr=>K r σ) ⟨⟩) ⟨⟩):=(rfl)
def AQ_indexP {m n:Nat} {x i:SOpd}:AQ G P (.indexP m n x i) env σ K1 t1=(jy (i.eval G env) (λk=>0<=k/\k<m/\il (k.toNat*n) (x.eval G env) (K1) ⟨⟩) ⟨⟩):=(rfl)
def AO_index {x i:SOpd}:AO G P (.index x i) env σ K tK=(jP (x.eval G env) (λs=>jy (i.eval G env) (λn=>0<=n/\n<s.length/\(λr=>K r σ) (.int .u8 (s.getD n.toNat 0).toNat)) ⟨⟩) ⟨⟩):=(rfl)
def AQ_index {x i:SOpd}:AQ G P (.index x i) env σ K1 t1=(jP (x.eval G env) (λs=>jy (i.eval G env) (λn=>0<=n/\n<s.length/\(K1) (.int .u8 (s.getD n.toNat 0).toNat)) ⟨⟩) ⟨⟩):=(rfl)
def AO_slice {n:Nat} {x:SOpd} {lo hi:Option SOpd}:AO G P (.slice n x lo hi) env σ K tK=(fU G env n (x.eval G env) lo hi (λr=>K r σ) ⟨⟩):=(rfl)
def AQ_slice {n:Nat} {x:SOpd} {lo hi:Option SOpd}:AQ G P (.slice n x lo hi) env σ K1 t1=(fU G env n (x.eval G env) lo hi (K1) ⟨⟩):=(rfl)
def AO_sliceS {x:SOpd} {lo hi:Option SOpd}:AO G P (.sliceS x lo hi) env σ K tK=(jP (x.eval G env) (λs=>ec G env 0 lo (λl=>ec G env s.length hi (λh=>0<=l/\l<=h/\h<=s.length/\(λr=>K r σ) (.str ((s.take h.toNat).drop l.toNat))) ⟨⟩) ⟨⟩) ⟨⟩):=(rfl)
def AQ_sliceS {x:SOpd} {lo hi:Option SOpd}:AQ G P (.sliceS x lo hi) env σ K1 t1=(jP (x.eval G env) (λs=>ec G env 0 lo (λl=>ec G env s.length hi (λh=>0<=l/\l<=h/\h<=s.length/\(K1) (.str ((s.take h.toNat).drop l.toNat))) ⟨⟩) ⟨⟩) ⟨⟩):=(rfl)
def AO_field {agg:Bool} {m n:Nat} {x:SOpd}:AO G P (.field agg m n x) env σ K tK=(mf (x.eval G env) (λcs=>gB agg n (cs.drop m) (λr=>K r σ) ⟨⟩) ⟨⟩):=(rfl)
def AQ_field {agg:Bool} {m n:Nat} {x:SOpd}:AQ G P (.field agg m n x) env σ K1 t1=(mf (x.eval G env) (λcs=>gB agg n (cs.drop m) (K1) ⟨⟩) ⟨⟩):=(rfl)
def rD {n:Nat} {x:SOpd}:AO G P (.extract n x) env σ K tK=(tupX_ n (x.eval G env) (λr=>K r σ) ⟨⟩):=(rfl)
def rM {n:Nat} {x:SOpd}:AQ G P (.extract n x) env σ K1 t1=(tupX_ n (x.eval G env) (K1) ⟨⟩):=(rfl)
def AO_bin {op:BinOp} {x y:SOpd}:AO G P (.bin op x y) env σ K tK=(bL op (x.eval G env) (y.eval G env) (λr=>K r σ) ⟨⟩):=(rfl)
def AQ_bin {op:BinOp} {x y:SOpd}:AQ G P (.bin op x y) env σ K1 t1=(bL op (x.eval G env) (y.eval G env) (K1) ⟨⟩):=(rfl)
def AO_eqb {n:Bool} {x y:SOpd}:AO G P (.eqb n x y) env σ K tK=(jl (x.eval G env) (λa=>jl (y.eval G env) (λb=>(λr=>K r σ) (.bool (if n then a != b else a==b))) ⟨⟩) ⟨⟩):=(rfl)
def AQ_eqb {n:Bool} {x y:SOpd}:AQ G P (.eqb n x y) env σ K1 t1=(jl (x.eval G env) (λa=>jl (y.eval G env) (λb=>(K1) (.bool (if n then a != b else a==b))) ⟨⟩) ⟨⟩):=(rfl)
def AO_eqs {b:Bool} {ks:List Nat} {x y:SOpd}:AO G P (.eqs b ks x y) env σ K tK=(mf (x.eval G env) (λxs=>mf (y.eval G env) (λys=>eqsX_ b ks xs ys (λr=>K r σ) ⟨⟩) ⟨⟩) ⟨⟩):=(rfl)
def AQ_eqs {b:Bool} {ks:List Nat} {x y:SOpd}:AQ G P (.eqs b ks x y) env σ K1 t1=(mf (x.eval G env) (λxs=>mf (y.eval G env) (λys=>eqsX_ b ks xs ys (K1) ⟨⟩) ⟨⟩) ⟨⟩):=(rfl)
def AO_eqnil {n:Nat} {b:Bool} {x:SOpd}:AO G P (.eqnil n b x) env σ K tK=(eB n b (x.eval G env) (λr=>K r σ) ⟨⟩):=(rfl)
def AQ_eqnil {n:Nat} {b:Bool} {x:SOpd}:AQ G P (.eqnil n b x) env σ K1 t1=(eB n b (x.eval G env) (K1) ⟨⟩):=(rfl)
def AO_not {x:SOpd}:AO G P (.not x) env σ K tK=(jl (x.eval G env) (λb=>(λr=>K r σ) (.bool (!b))) ⟨⟩):=(rfl)
def AQ_not {x:SOpd}:AQ G P (.not x) env σ K1 t1=(jl (x.eval G env) (λb=>(K1) (.bool (!b))) ⟨⟩):=(rfl)
def AO_conv {k:IntKind} {x:SOpd}:AO G P (.conv k x) env σ K tK=(convX_ k (x.eval G env) (λr=>K r σ) ⟨⟩):=(rfl)
def AQ_conv {k:IntKind} {x:SOpd}:AQ G P (.conv k x) env σ K1 t1=(convX_ k (x.eval G env) (K1) ⟨⟩):=(rfl)
def AO_str {x:SOpd}:AO G P (.str x) env σ K tK=(jP (x.eval G env) (λs=>(λr=>K r σ) (.str s)) ⟨⟩):=(rfl)
def AQ_str {x:SOpd}:AQ G P (.str x) env σ K1 t1=(jP (x.eval G env) (λs=>(K1) (.str s)) ⟨⟩):=(rfl)
def AO_len {x:SOpd}:AO G P (.len x) env σ K tK=(nC (x.eval G env) (λr=>K r σ) ⟨⟩):=(rfl)
def AQ_len {x:SOpd}:AQ G P (.len x) env σ K1 t1=(nC (x.eval G env) (K1) ⟨⟩):=(rfl)
def AO_lenS {x:SOpd}:AO G P (.lenS x) env σ K tK=(jP (x.eval G env) (λs=>(λr=>K r σ) (.i s.length)) ⟨⟩):=(rfl)
def AQ_lenS {x:SOpd}:AQ G P (.lenS x) env σ K1 t1=(jP (x.eval G env) (λs=>(K1) (.i s.length)) ⟨⟩):=(rfl)
def AO_mkfun {f:Fn} {a b:List SOpd}:AO G P (.mkfun f a b) env σ K tK=(l9 G env a (λvs=>l9 G env b (λus=>(λr=>K r σ) (.sc (.func f vs.toArray us.toArray))) ⟨⟩) ⟨⟩):=(rfl)
def AQ_mkfun {f:Fn} {a b:List SOpd}:AQ G P (.mkfun f a b) env σ K1 t1=(l9 G env a (λvs=>l9 G env b (λus=>(K1) (.sc (.func f vs.toArray us.toArray))) ⟨⟩) ⟨⟩):=(rfl)
def AO_alloc {e:TypeId} {zero:List AV}:AO G P (.alloc e zero) env σ K tK=(newX_ σ (λb=>K (.p b) ((b,.cells e zero)::σ)) ⟨⟩):=(rfl)
def AO_box {e:TypeId} {n:Nat} {x:SOpd}:AO G P (.box e n x) env σ K tK=(bf (x.eval G env) (λc=>c.length=n/\newX_ σ (λb=>K (.p b) ((b,.cells e c)::σ)) ⟨⟩) ⟨⟩):=(rfl)
def AO_boxR {n:Nat} {x:SOpd}:AO G P (.boxR n x) env σ K tK=(bf (x.eval G env) (λc=>c.length=n/\K (.ref c) σ) ⟨⟩):=(rfl)
def AO_loadF {agg:Bool} {n:Nat} {x:SOpd}:AO G P (.loadF agg n x) env σ K tK=(refX_ (x.eval G env) (λcs=>gB agg n cs (λr=>K r σ) ⟨⟩) ⟨⟩):=(rfl)
def refX_ref {cs:List AV}:refX_ (.ref cs) KL tL=(KL cs):=(rfl)
def W_drawT {t:DT} {ks:List Nat}:W G P (.drawT t ks) Q env σ tQ=(TR G P t env σ (λenv σ=>∃D σ',Weak G (env.keep ks) σ D σ'/\Q .normal D σ') ⟨⟩):=(rfl)
def TR_done:TR G P .done env σ KE tE=(KE env σ):=(rfl)
def TR_none {d:Option Nat} {D:SOp} {t:DT}:TR G P (.step ⟨d,none,D⟩ t) env σ KE tE=(AO G P D env σ (λr σ'=>TR G P t (env.put d r) σ' KE ⟨⟩) ⟨⟩):=(rfl)
def TR_some {d:Option Nat} {j:Nat} {b:Bool} {D:SOp} {t:DT}:TR G P (.step ⟨d,some (j,b),D⟩ t) env σ KE tE=(gd_ (env.get j) b (AO G P D (env.set j (.bool b)) σ (λr σ'=>TR G P t ((env.set j (.bool b)).put d r) σ' KE ⟨⟩) ⟨⟩)
   (TR G P t ((env.set j (.bool (!b))).put d aG) σ KE ⟨⟩) (TR G P t (env.put d aG) σ KE ⟨⟩) ⟨⟩ ⟨⟩ ⟨⟩):=(rfl)
def AO_buildS {e:TypeId} {sz len:Nat} {zero:List AV} {parts:List (Nat×SOpd)}:AO G P (.buildS e sz len zero parts) env σ K tK=(iG G env zero (parts.map λp=>(p.1*sz,sz,p.2)) (λcs=>
   newX_ σ (λb=>∃rows:List (List AV),rows.length=len/\(∀r∈rows,r.length=sz)/\rows.flatten=cs/\K (.own (some b) e sz rows) ((b,.tok e (len*sz))::σ)) ⟨⟩) ⟨⟩):=(rfl)
def AO_store {n:Nat} {x y:SOpd}:AO G P (.store n x y) env σ K tK=(ptrX_ (x.eval G env) (λb o=>mr (σ.get b) (λe cs=>bf (y.eval G env) (λc=>
   c.length=n/\o+n<=cs.length/\K aG (σ.set b (.cells e (aJ cs o c)))) ⟨⟩) ⟨⟩) ⟨⟩):=(rfl)
def AO_append {e:TypeId} {sz bytes:Nat} {x y:SOpd}:AO G P (.append e sz bytes x y) env σ K tK=(ownX_ e sz (x.eval G env) (λg rows=>srcX_ sz (y.eval G env) (λys=>appX e sz bytes σ g rows ys K) ⟨⟩) ⟨⟩):=(rfl)
def AO_call {f:SOpd} {args:List SOpd}:AO G P (.call f args) env σ K tK=(scX_ (f.eval G env) (λv=>CALL G P v (args.map (·.eval G env)) σ K ⟨⟩) ⟨⟩):=(rfl)
def AO_invoke {x:SOpd} {name:String} {args:List SOpd}:AO G P (.invoke x name args) env σ K tK=(scX_ (x.eval G env) (λv=>INV G P v name (args.map (·.eval G env)) σ K ⟨⟩) ⟨⟩):=(rfl)
def AO_mkI {t:TypeId} {x:SOpd}:AO G P (.mkI t x) env σ K tK=(scX_ (x.eval G env) (λv=>K (.sc (.iface t v)) σ) ⟨⟩):=(rfl)
def AQ_mkI {t:TypeId} {x:SOpd}:AQ G P (.mkI t x) env σ K1 t1=(scX_ (x.eval G env) (λv=>K1 (.sc (.iface t v))) ⟨⟩):=(rfl)
def AQ_call {f:SOpd} {args:List SOpd}:AQ G P (.call f args) env σ K1 t1=(scX_ (f.eval G env) (λv=>QCALL G P v (args.map (·.eval G env)) K1 ⟨⟩) ⟨⟩):=(rfl)
def pK {x y:AV}:gr (.bool true) x y K1 t1=(K1 x):=by simp[gr,j6]
def ot {x y:AV}:gr (.bool false) x y K1 t1=(K1 y):=by simp[gr,j6]
def nilAV_ref {cs:List AV}:mM (.ref cs) K1 t1=(K1 (.ref cs)):=(rfl)
def nilAV_ptr {a:Addr}:mM (.sc (.pointer (some a))) K1 t1=(K1 (.sc (.pointer (some a)))):=(rfl)
def nilAV_fun {k:Nat} {fs cs:Array Value}:mM (.sc (.func (.func k) fs cs)) K1 t1=(K1 (.sc (.func (.func k) fs cs))):=(rfl)
def nZ {e:TypeId} {cs:List AV}:mr (some (.cells e cs)) KT tT=(KT e cs):=(rfl)
def loadX_ref {agg:Bool} {n:Nat} {cs:List AV}:lL σ agg n (.ref cs) K1 t1=(gB agg n cs K1 ⟨⟩):=(rfl)
def loadX_ptr {agg:Bool} {n b o:Nat}:lL σ agg n (.sc (.pointer (some ⟨b,o,none⟩))) K1 t1=(mr (σ.get b) (λ_ cs=>gB agg n (cs.drop o) K1 ⟨⟩) ⟨⟩):=(rfl)
def ri {n:Nat} {cs:List AV}:gB true n cs K1 t1=(n<=cs.length/\K1 (.agg (cs.take n))):=(rfl)
def rz {n:Nat} {cs:List AV}:gB false n cs K1 t1=(n<=cs.length/\K1 (cs.headD .any)):=(rfl)
def rK {n:Nat} {cs:List AV}:il n (.ref cs) K1 t1=(K1 (.ref (cs.drop n))):=(rfl)
def rL {n b o:Nat}:il n (.sc (.pointer (some ⟨b,o,none⟩))) K1 t1=(K1 (.sc (.pointer (some ⟨b,o+n,none⟩)))):=(rfl)
def rH {n m:Nat} {rows:List (List AV)} {i:AV}:jT n (.lst m rows) i K1 t1=(n=m/\jy i (λm=>0<=m/\m<rows.length/\K1 (.ref (rows.getD m.toNat []))) ⟨⟩):=(rfl)
def rI {n m e:Nat} {g:Option Nat} {rows:List (List AV)} {i:AV}:jT n (.own g e m rows) i K1 t1=(n=m/\jy i (λm=>0<=m/\m<rows.length/\K1 (.ref (rows.getD m.toNat []))) ⟨⟩):=(rfl)
def qx {n b o l c:Nat} {i:AV}:jT n (.sc (.slice (some ⟨b,o,none⟩) l c)) i K1 t1=(jy i (λm=>0<=m/\m<l/\K1 (.sc (.pointer (some ⟨b,o+m.toNat*n,none⟩)))) ⟨⟩):=(rfl)
def intX_int {k:IntKind} {n:Int}:jy (.int k n) KI tI=(KI n):=(rfl)
def rd {n:Nat} {rows:List (List AV)}:rowsOf_ (.lst n rows) KR tR=(KR n rows):=(rfl)
def qQ {g:Option Nat} {e n:Nat} {rows:List (List AV)}:rowsOf_ (.own g e n rows) KR tR=(KR n rows):=(rfl)
def strX_str {s:List UInt8}:jP (.str s) KS tS=(KS s):=(rfl)
def aggX_agg {cs:List AV}:mf (.agg cs) KL tL=(KL cs):=(rfl)
def tupX_tup {n:Nat} {cs:List AV}:tupX_ n (.tup cs) K1 t1=(n<cs.length/\K1 (cs.getD n .any)):=(rfl)
def rm {b:Bool}:jl (.bool b) KB tB=(KB b):=(rfl)
def eqnil_nil {b:Bool}:eB 0 b .nil K1 t1=(K1 (.bool (!b))):=(rfl)
def eqnil_lst {b:Bool} {n:Nat} {rows:List (List AV)}:eB 0 b (.lst n rows) K1 t1=(∀c,(rows≠[]->c=b)->K1 (.bool c)):=(rfl)
def eqnil_own {b:Bool} {g:Option Nat} {e n:Nat} {rows:List (List AV)}:eB 0 b (.own g e n rows) K1 t1=(K1 (.bool (if b then g.isSome else g.isNone))):=(rfl)
def eqnil_map {b:Bool} {r:Option Nat}:eB 1 b (.sc (.map r)) K1 t1=(K1 (.bool (if b then r.isSome else r.isNone))):=(rfl)
def eqnil_fun {b:Bool} {f:Fn} {x y:Array Value}:eB 2 b (.sc (.func f x y)) K1 t1=(K1 (.bool b)):=(rfl)
def qd {b:Bool}:eB 2 b (.sc .nilFunc) K1 t1=(K1 (.bool (!b))):=(rfl)
def eqnil_ptr {b:Bool} {r:Option Addr}:eB 3 b (.sc (.pointer r)) K1 t1=(K1 (.bool (if b then r.isSome else r.isNone))):=(rfl)
def eqnil_ref {b:Bool} {cs:List AV}:eB 3 b (.ref cs) K1 t1=(K1 (.bool b)):=(rfl)
def eqsX_some {b:Bool} {ks:List Nat} {xs ys:List AV}:eqsX_ b ks xs ys K1 t1=(eqvX_ b (eqAV ks xs ys) K1 ⟨⟩):=rfl
def eqvX_some {b r:Bool}:eqvX_ b (some r) K1 t1=(K1 (.bool (if b then !r else r))):=(rfl)
def eqAV_nil:eqAV [] [] []=(some true):=(rfl)
def eqAV_0 {ks:List Nat} {a b:Bool} {xs ys:List AV}:eqAV (0::ks) (.bool a::xs) (.bool b::ys)=((eqAV ks xs ys).map ((a==b)&& ·)):=(rfl)
def eqAV_1 {ks:List Nat} {k:IntKind} {a b:Int} {xs ys:List AV}:eqAV (1::ks) (.int k a::xs) (.int k b::ys)=((eqAV ks xs ys).map (decide (a=b)&& ·)):=by simp[eqAV]
def eqAV_2 {ks:List Nat} {a b:List UInt8} {xs ys:List AV}:eqAV (2::ks) (.str a::xs) (.str b::ys)=((eqAV ks xs ys).map (decide (a=b)&& ·)):=(rfl)
def conv_int {k j:IntKind} {n:Int}:convX_ k (.int j n) K1 t1=(K1 (.int k (k.wrap n))):=(rfl)
def len_lst {n:Nat} {rows:List (List AV)}:nC (.lst n rows) K1 t1=(K1 (.i rows.length)):=(rfl)
def len_own {g:Option Nat} {e n:Nat} {rows:List (List AV)}:nC (.own g e n rows) K1 t1=(K1 (.i rows.length)):=(rfl)
def len_nil:nC .nil K1 t1=(K1 (.i 0)):=(rfl)
def len_sc {r:Option Addr} {n c:Nat}:nC (.sc (.slice r n c)) K1 t1=(K1 (.i n)):=(rfl)
def scX_sc {v:Value}:scX_ (.sc v) KV tV=(KV v):=(rfl)
def scsX_nil:l9 G env [] KVs tVs=(KVs []):=(rfl)
def scsX_cons {x:SOpd} {xs:List SOpd}:l9 G env (x::xs) KVs tVs=(scX_ (x.eval G env) (λv=>l9 G env xs (λvs=>KVs (v::vs)) ⟨⟩) ⟨⟩):=(rfl)
def ownX_nil {e n:Nat}:ownX_ e n .nil KO tO=(KO none []):=(rfl)
def ownX_own {e n D E:Nat} {g:Option Nat} {rows:List (List AV)}:ownX_ e n (.own g D E rows) KO tO=(D=e/\E=n/\KO g rows):=(rfl)
def srcX_nil {n:Nat}:srcX_ n .nil KRs tRs=(KRs []):=(rfl)
def srcX_lst {n m:Nat} {rows:List (List AV)}:srcX_ n (.lst m rows) KRs tRs=(m=n/\KRs rows):=(rfl)
def srcX_own {n m e:Nat} {g:Option Nat} {rows:List (List AV)}:srcX_ n (.own g e m rows) KRs tRs=(m=n/\KRs rows):=(rfl)
def ptrX_ptr {b o:Nat}:ptrX_ (.sc (.pointer (some ⟨b,o,none⟩))) KP tP=(KP b o):=(rfl)
def newX_eq:newX_ σ KN tN=(∀b,b∉σ.keys->KN b):=(rfl)
def rF {b:Bool}:bf (.bool b) KL tL=(KL [.bool b]):=(rfl)
def cells_int {k:IntKind} {n:Int}:bf (.int k n) KL tL=(KL [.int k n]):=(rfl)
def cells_str {s:List UInt8}:bf (.str s) KL tL=(KL [.str s]):=(rfl)
def cells_nil:bf (.nil) KL tL=(KL [.nil]):=(rfl)
def cells_lst {m:Nat} {rows:List (List AV)}:bf (.lst m rows) KL tL=(KL [.lst m rows]):=(rfl)
def cells_own {g:Option Nat} {e m:Nat} {rows:List (List AV)}:bf (.own g e m rows) KL tL=(KL [.own g e m rows]):=(rfl)
def cells_ref {cs:List AV}:bf (.ref cs) KL tL=(KL [.ref cs]):=(rfl)
def cells_agg {cs:List AV}:bf (.agg cs) KL tL=(KL cs):=(rfl)
def cells_fun {f:Fn} {x y:Array Value}:bf (.sc (.func f x y)) KL tL=(KL [.sc (.func f x y)]):=(rfl)
def pY:bf (.sc .nilFunc) KL tL=(KL [.sc .nilFunc]):=(rfl)
def cells_ptr {r:Option Addr}:bf (.sc (.pointer r)) KL tL=(KL [.sc (.pointer r)]):=(rfl)
def cells_map {r:Option Nat}:bf (.sc (.map r)) KL tL=(KL [.sc (.map r)]):=(rfl)
def oP {r:Option Addr} {n c:Nat}:bf (.sc (.slice r n c)) KL tL=(KL [.sc (.slice r n c)]):=(rfl)
def fill_nil {cs:List AV}:iG G env cs [] KL tL=(KL cs):=(rfl)
def fill_cons {cs:List AV} {o n:Nat} {x:SOpd} {ps:List (Nat×Nat×SOpd)}:iG G env cs ((o,n,x)::ps) KL tL=(bf (x.eval G env) (λc=>c.length=n/\o+n<=cs.length/\iG G env (aJ cs o c) ps KL ⟨⟩) ⟨⟩):=(rfl)
def pD {l c:List AV}:aJ l 0 c=(c++l.drop c.length):=by cases l<;>rfl
def p6 {x:AV} {l c:List AV} {n:Nat}:aJ (x::l) (n+1) c=(x::aJ l n c):=(rfl)
def bin_eql {k:IntKind} {a b:Int}:bL .eql (.int k a) (.int k b) K1 t1=(K1 (.bool (decide (a=b)))):=by simp[bL,fj]
def bin_neq {k:IntKind} {a b:Int}:bL .neq (.int k a) (.int k b) K1 t1=(K1 (.bool (decide (a≠b)))):=by simp[bL,fj]
def bin_lss {k:IntKind} {a b:Int}:bL .lss (.int k a) (.int k b) K1 t1=(K1 (.bool (decide (a<b)))):=by simp[bL,fj]
def bin_leq {k:IntKind} {a b:Int}:bL .leq (.int k a) (.int k b) K1 t1=(K1 (.bool (decide (a<=b)))):=by simp[bL,fj]
def bin_gtr {k:IntKind} {a b:Int}:bL .gtr (.int k a) (.int k b) K1 t1=(K1 (.bool (decide (b<a)))):=by simp[bL,fj]
def bin_geq {k:IntKind} {a b:Int}:bL .geq (.int k a) (.int k b) K1 t1=(K1 (.bool (decide (b<=a)))):=by simp[bL,fj]
def bin_add {k:IntKind} {a b:Int}:bL .add (.int k a) (.int k b) K1 t1=(K1 (.int k (k.wrap (a+b)))):=by simp[bL,fj]
def bin_sub {k:IntKind} {a b:Int}:bL .sub (.int k a) (.int k b) K1 t1=(K1 (.int k (k.wrap (a-b)))):=by simp[bL,fj]
def bin_mul {k:IntKind} {a b:Int}:bL .mul (.int k a) (.int k b) K1 t1=(K1 (.int k (k.wrap (a*b)))):=by simp[bL,fj]
def bin_quo {k:IntKind} {a b:Int}:bL .quo (.int k a) (.int k b) K1 t1=(b≠0/\K1 (.int k (k.wrap (a.tdiv b)))):=by simp[bL,fj]
def bin_rem {k:IntKind} {a b:Int}:bL .rem (.int k a) (.int k b) K1 t1=(b≠0/\K1 (.int k (a.tmod b))):=by simp[bL,fj]
def bin_adds {a b:List UInt8}:bL .add (.str a) (.str b) K1 t1=(a.length+b.length<9223372036854775808/\K1 (.str (a++b))):=(rfl)
def bin_eqls {a b:List UInt8}:bL .eql (.str a) (.str b) K1 t1=(K1 (.bool (decide (a=b)))):=(rfl)
def bin_neqs {a b:List UInt8}:bL .neq (.str a) (.str b) K1 t1=(K1 (.bool (decide (a≠b)))):=(rfl)
def bin_lsss {a b:List UInt8}:bL .lss (.str a) (.str b) K1 t1=(K1 (.bool (Op.bytesLess a b))):=(rfl)
def bin_gtrs {a b:List UInt8}:bL .gtr (.str a) (.str b) K1 t1=(K1 (.bool (!(Op.bytesLess a b||decide (a=b))))):=(rfl)
def slice_lst {n m:Nat} {rows:List (List AV)} {lo hi:Option SOpd}:fU G env n (.lst m rows) lo hi K1 t1=(ec G env 0 lo (λl=>ec G env rows.length hi (λh=>n=m/\0<=l/\l<=h/\h<=rows.length/\K1 (.lst n ((rows.take h.toNat).drop l.toNat))) ⟨⟩) ⟨⟩):=(rfl)
def slice_own {n m e:Nat} {g:Option Nat} {rows:List (List AV)} {lo hi:Option SOpd}:fU G env n (.own g e m rows) lo hi K1 t1=(ec G env 0 lo (λl=>ec G env rows.length hi (λh=>n=m/\0<=l/\l<=h/\h<=rows.length/\K1 (.lst n ((rows.take h.toNat).drop l.toNat))) ⟨⟩) ⟨⟩):=(rfl)
def slice_raw {n b o k c:Nat} {lo hi:Option SOpd}:fU G env n (.sc (.slice (some ⟨b,o,none⟩) k c)) lo hi K1 t1=(ec G env 0 lo (λl=>ec G env k hi (λh=>0<=l/\l<=h/\h<=k/\k<=c/\l<c/\K1 (.sc (.slice (some ⟨b,o+l.toNat*n,none⟩) (h.toNat-l.toNat) (c-l.toNat)))) ⟨⟩) ⟨⟩):=(rfl)
def slice_nil {n:Nat} {lo hi:Option SOpd}:fU G env n .nil lo hi K1 t1=(ec G env 0 lo (λl=>ec G env 0 hi (λh=>l=0/\h=0/\K1 .nil) ⟨⟩) ⟨⟩):=(rfl)
def rA {d:Int}:ec G env d none KI tI=(KI d):=(rfl)
def rc {d:Int} {x:SOpd}:ec G env d (some x) KI tI=(jy (x.eval G env) KI ⟨⟩):=(rfl)
end
def gS {G:Glob} {P:Program} {a:SCode} {Q:Exit->Env->Store->Prop} {tQ:Tag Q} {env:Env} {σ:Store} {ι:Type} (ok:ι->Prop) (I:ι->Nat) (st:ι->Env) (F:ι->Store)
  (M:ι) (Y:ok M) (O:Weak G env σ (st M) (F M))
  (N:∀i,ok i->W G P a (NR (λD σ'=>∃j,ok j/\I j<I i/\Weak G D σ' (st j) (F j)) Q ⟨⟩ ⟨⟩) (st i) (F i) ⟨⟩):W G P (.loop a) Q env σ tQ:=by
 refine⟨λn e s=>∃i,ok i/\I i=n/\e=st i/\s=F i,I M,st M,F M,⟨M,Y,rfl,rfl,rfl⟩,O,?_⟩
 rintro n e s ⟨i,hi,rfl,rfl,rfl⟩
 have:=N i hi
 have X:(fT (λD σ'=>∃m E J,m<I i/\(∃j,ok j/\I j=m/\E=st j/\J=F j)/\Weak G D σ' E J) Q)
   =(fT (λD σ'=>∃j,ok j/\I j<I i/\Weak G D σ' (st j) (F j)) Q):=by
  congr 1
  funext D σ'
  apply propext
  constructor
  ·rintro⟨m,e,s,V,⟨j,T,rfl,rfl,rfl⟩,O⟩;exact⟨j,T,V,O⟩
  ·rintro⟨j,T,V,O⟩;exact⟨_,_,_,V,⟨j,T,rfl,rfl,rfl⟩,O⟩
 show swp G P a _ (st i) (F i)
 rw[X]
 exact this
def ae {x:Bool} {A B:Prop} {F:Tag A} {I:Tag B} (D:x=true->A) (E:x=false->B):ka (.bool x) A B F I:=⟨D,E⟩
def af {x b:Bool} {A B C:Prop} {F:Tag A} {I:Tag B} {J:Tag C} (D:x=b->A) (E:x= !b->B):gd_ (.bool x) b A B C F I J:=⟨D,E⟩
def ax {t:Bool} {x y:AV} {K1:AV->Prop} {t1:Tag K1} (D:t=true->K1 x) (E:t=false->K1 y):gr (.bool t) x y K1 t1:=⟨D,E⟩
def EV1:=(AI (AI (AI (AI (AI @re (AI @pI @W_skip)) (AI @W_region (AI @W_drawL @W_draw))) (AI (AI @W_ghost (AI @W_seq @W_block)) (AI @W_exit (AI @W_ret @W_bad)))) (AI (AI (AI @AO_raw (AI @AO_bad @AQ_bad)) (AI @W_cond (AI @NR_normal @NR_exit))) (AI (AI @NR_ret (AI @BL_normal @ox)) (AI @BL_exit (AI @BL_ret @SR_nil))))) (AI (AI (AI (AI @SR_none (AI @SR_some @QR_nil)) (AI @QR_none (AI @QR_some @gd_undef))) (AI (AI @gd_tt (AI @gd_tf @gd_ft)) (AI @gd_ff (AI @put_none @put_some)))) (AI (AI (AI @set_nil (AI @set_cons @get_nil)) (AI @get_cons (AI @keep_nil @keep_cons))) (AI (AI @sget_nil (AI @sget_cons @sset_nil)) (AI (AI @sset_cons @eval_t) (AI @eval_c @eval_f))))))
def EV2:=(AI (AI (AI (AI (AI @AO_mov (AI @AQ_mov @AO_pick)) (AI @AQ_pick (AI @p7 @pj))) (AI (AI @AO_load (AI @AQ_load @AO_build)) (AI @AQ_build (AI @AO_fieldA @AQ_fieldA)))) (AI (AI (AI @AO_indexA (AI @AQ_indexA @AO_indexP)) (AI @AQ_indexP (AI @AO_index @AQ_index))) (AI (AI @AO_slice (AI @AQ_slice @AO_sliceS)) (AI @AQ_sliceS (AI @AO_field @AQ_field))))) (AI (AI (AI (AI @rD (AI @rM @AO_bin)) (AI @AQ_bin (AI @AO_eqb @AQ_eqb))) (AI (AI @AO_eqs (AI @AQ_eqs @AO_eqnil)) (AI @AQ_eqnil (AI @AO_not @AQ_not)))) (AI (AI (AI @AO_conv (AI @AQ_conv @AO_str)) (AI @AQ_str (AI @AO_len @AQ_len))) (AI (AI @AO_lenS (AI @AQ_lenS @AO_mkfun)) (AI (AI @AQ_mkfun @AO_alloc) (AI (AI (AI (AI (AI @W_drawT @TR_done) (AI @TR_none @TR_some)) (AI @AO_loadF @refX_ref)) (AI @AO_box @AO_boxR)) @AO_buildS))))))
def EV3:=(AI (AI (AI (AI (AI @AO_store (AI @AO_append @AO_call)) (AI @AO_invoke (AI @AO_mkI @AQ_mkI))) (AI (AI @AQ_call (AI @pK @ot)) (AI @nilAV_ref (AI @nilAV_ptr @nilAV_fun)))) (AI (AI (AI @nZ (AI @loadX_ref @loadX_ptr)) (AI @ri (AI @rz @rK))) (AI (AI @rL (AI @rH @rI)) (AI @qx (AI @intX_int @rd))))) (AI (AI (AI (AI @qQ (AI @strX_str @aggX_agg)) (AI @tupX_tup (AI @rm @eqnil_nil))) (AI (AI @eqnil_lst (AI @eqnil_own @eqnil_map)) (AI @eqnil_fun (AI @qd @eqnil_ptr)))) (AI (AI (AI @eqnil_ref (AI @eqsX_some @eqvX_some)) (AI @eqAV_nil (AI @eqAV_0 @eqAV_1))) (AI (AI @eqAV_2 (AI @conv_int @len_lst)) (AI (AI @len_own @len_nil) (AI @scX_sc @scsX_nil))))))
def EV4:=(AI (AI (AI (AI (AI @scsX_cons @ownX_nil) (AI @ownX_own (AI @srcX_nil @srcX_lst))) (AI (AI @srcX_own (AI @ptrX_ptr @newX_eq)) (AI @rF (AI @cells_int @cells_str)))) (AI (AI (AI @cells_nil (AI @cells_lst @cells_own)) (AI @cells_ref (AI @cells_agg @cells_fun))) (AI (AI @pY (AI @cells_ptr @cells_map)) (AI @fill_nil (AI @fill_cons @pD))))) (AI (AI (AI (AI @p6 @bin_eql) (AI @bin_neq (AI @bin_lss @bin_leq))) (AI (AI @bin_gtr (AI @bin_geq @bin_add)) (AI @bin_sub (AI @bin_mul @bin_quo)))) (AI (AI (AI @bin_rem (AI @bin_adds @bin_eqls)) (AI @bin_neqs (AI @bin_lsss @bin_gtrs))) (AI (AI @slice_lst (AI @slice_own @slice_raw)) (AI @slice_nil (AI @rA (AI @rc (AI @len_sc @oP))))))))
end
end Go.Av
