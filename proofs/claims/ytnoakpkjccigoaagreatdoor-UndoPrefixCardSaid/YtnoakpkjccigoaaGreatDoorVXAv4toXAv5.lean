/-
  ABSTRACT VALUES, 4: the same as equations, one for each form, for a walk by rewriting. A continuation bears a tag, so that rewriting does not enter it.
-/
import Derived.Test.YtnoakpkjccigoaaGreatDoorVXAv1toXAv3
namespace Go.Av
open Go Go.RowKit List
set_option linter.unusedSimpArgs false
set_option linter.unusedVariables false
section
structure Tag.{u} {α:Sort u} (a:α):Type where
section
variable {G:Glob} {P:Program} {env:Env} {σ:Store}
def W (G:Glob) (P:Program) (c:SCode) (Q:Exit->Env->Store->Prop) (env:Env) (σ:Store) (_t:Tag Q):Prop:=swp G P c Q env σ
def SR (G:Glob) (P:Program) (ops:List SOper) (env:Env) (σ:Store) (K:Env->Store->Prop) (_t:Tag K):Prop:=srun G P ops env σ K
def TR (G:Glob) (P:Program) (t:DT) (env:Env) (σ:Store) (K:Env->Store->Prop) (_t:Tag K):Prop:=trun G P t env σ K
def QR (G:Glob) (P:Program) (ops:List SOper) (env:Env) (σ:Store) (K:Env->Prop) (_t:Tag K):Prop:=qrun G P ops env σ K
def AO (G:Glob) (P:Program) (D:SOp) (env:Env) (σ:Store) (K:AV->Store->Prop) (_t:Tag K):Prop:=aop G P D env σ K
def AQ (G:Glob) (P:Program) (D:SOp) (env:Env) (σ:Store) (K:AV->Prop) (_t:Tag K):Prop:=aqc G P D env σ K
def NR (K:Env->Store->Prop) (Q:Exit->Env->Store->Prop) (_t:Tag K) (_u:Tag Q):Exit->Env->Store->Prop:=fh K Q
def BL (i:Nat) (Q:Exit->Env->Store->Prop) (_u:Tag Q):Exit->Env->Store->Prop:=jL i Q
def gd_ (x:AV) (b:Bool) (A B C:Prop) (_a:Tag A) (_b:Tag B) (_c:Tag C):Prop:=gd x b A B C
def jl (x:AV) (A B:Prop) (_a:Tag A) (_b:Tag B):Prop:=match x with| .bool t=>(t=true->A)/\(t=false->B)|_=>False
def CALL (G:Glob) (P:Program) (f:Value) (args:List AV) (σ:Store) (K:AV->Store->Prop) (_t:Tag K):Prop:=kv G P f args σ K
def INV (G:Glob) (P:Program) (v:Value) (name:String) (args:List AV) (σ:Store) (K:AV->Store->Prop) (_t:Tag K):Prop:=AInv G P v name args σ K
def RAW (G:Glob) (P:Program) (op:Op) (env:Env) (σ:Store) (K:AV->Store->Prop) (_t:Tag K):Prop:=RawOp G P op env σ K
def QCALL (G:Glob) (P:Program) (f:Value) (args:List AV) (K:AV->Prop) (_t:Tag K):Prop:=AQCall G P f args K
def bB (op:BinOp) (x y:AV) (K:AV->Prop) (_t:Tag K):Prop:=er op x y K
def ff (G:Glob) (env:Env) (n:Nat) (x:AV) (lo hi:Option SOpd) (K:AV->Prop) (_t:Tag K):Prop:=jF G env n x lo hi K
def rowsOf_ (x:AV) (K:Nat->List (List AV)->Prop) (_t:Tag K):Prop:=ja x K
def aV (x:AV) (K:List AV->Prop) (_t:Tag K):Prop:=bU x K
def fH (agg:Bool) (n:Nat) (cs:List AV) (K:AV->Prop) (_t:Tag K):Prop:=eV agg n cs K
def fC (c x y:AV) (K:AV->Prop) (_t:Tag K):Prop:=jg c x y K
def kL (x:AV) (K:AV->Prop) (_t:Tag K):Prop:=nilAV x K
def kA (o:Option AObj) (K:TypeId->List AV->Prop) (_t:Tag K):Prop:=gJ o K
def kV (σ:Store) (agg:Bool) (n:Nat) (x:AV) (K:AV->Prop) (_t:Tag K):Prop:=l6 σ agg n x K
def iH (n:Nat) (x i:AV) (K:AV->Prop) (_t:Tag K):Prop:=mB n x i K
def refX_ (x:AV) (K:List AV->Prop) (_t:Tag K):Prop:=refX x K
def gK (n:Nat) (x:AV) (K:AV->Prop) (_t:Tag K):Prop:=cQ n x K
def iE (x:AV) (K:Int->Prop) (_t:Tag K):Prop:=intX x K
def iT (x:AV) (K:List UInt8->Prop) (_t:Tag K):Prop:=strX x K
def kg (x:AV) (K:List AV->Prop) (_t:Tag K):Prop:=aggX x K
def tupX_ (n:Nat) (x:AV) (K:AV->Prop) (_t:Tag K):Prop:=tupX n x K
def ir (x:AV) (K:Bool->Prop) (_t:Tag K):Prop:=gX x K
def eqsX_ (b:Bool) (ks:List Nat) (xs ys:List AV) (K:AV->Prop) (_t:Tag K):Prop:=eqsX b ks xs ys K
def dI (kind:Nat) (b:Bool) (x:AV) (K:AV->Prop) (_t:Tag K):Prop:=ia kind b x K
def eqvX_ (b:Bool) (r:Option Bool) (K:AV->Prop) (_t:Tag K):Prop:=match r with|some r=>K (.bool (if b then !r else r))|none=>False
def convX_ (k:IntKind) (x:AV) (K:AV->Prop) (_t:Tag K):Prop:=convX k x K
def lC (x:AV) (K:AV->Prop) (_t:Tag K):Prop:=lenX x K
def scX_ (x:AV) (K:Value->Prop) (_t:Tag K):Prop:=scX x K
def kK (G:Glob) (env:Env) (xs:List SOpd) (K:List Value->Prop) (_t:Tag K):Prop:=scsX G env xs K
def ownX_ (e:TypeId) (n:Nat) (x:AV) (K:Option Nat->List (List AV)->Prop) (_t:Tag K):Prop:=ownX e n x K
def srcX_ (n:Nat) (x:AV) (K:List (List AV)->Prop) (_t:Tag K):Prop:=srcX n x K
def ptrX_ (x:AV) (K:Nat->Nat->Prop) (_t:Tag K):Prop:=ptrX x K
def newX_ (σ:Store) (K:Nat->Prop) (_t:Tag K):Prop:=newX σ K
def gP (G:Glob) (env:Env) (cs:List AV) (ps:List (Nat×Nat×SOpd)) (K:List AV->Prop) (_t:Tag K):Prop:=ga G env cs ps K
def db (G:Glob) (env:Env) (d:Int) (x:Option SOpd) (K:Int->Prop) (_t:Tag K):Prop:=eC G env d x K
variable {Q:Exit->Env->Store->Prop} {K:AV->Store->Prop} {K1:AV->Prop} {KE:Env->Store->Prop} {KQ:Env->Prop}
variable {KL:List AV->Prop} {KI:Int->Prop} {KB:Bool->Prop} {KR:Nat->List (List AV)->Prop} {KS:List UInt8->Prop} {KV:Value->Prop} {KVs:List Value->Prop} {KT:TypeId->List AV->Prop}
variable {KO:Option Nat->List (List AV)->Prop} {KRs:List (List AV)->Prop} {KP:Nat->Nat->Prop} {KN:Nat->Prop}
variable {tQ:Tag Q} {tK:Tag K} {t1:Tag K1} {tE:Tag KE} {tq:Tag KQ} {tL:Tag KL} {tI:Tag KI} {tB:Tag KB} {tR:Tag KR} {tS:Tag KS} {tV:Tag KV} {tVs:Tag KVs} {tT:Tag KT} {tO:Tag KO} {tRs:Tag KRs} {tP:Tag KP} {tN:Tag KN}
theorem oz {A B:Prop} {D:Tag A} {E:Tag B}:jl (.bool true) A B D E=(A):=by simp[jl]
theorem nq {A B:Prop} {D:Tag A} {E:Tag B}:jl (.bool false) A B D E=(B):=by simp[jl]
theorem W_skip:W G P .skip Q env σ tQ=(Q .normal env σ):=(rfl)
theorem W_region {ops:List SOper} {ks:List Nat}:W G P (.region ops ks) Q env σ tQ=(SR G P ops env σ (λenv σ=>Q .normal (env.keep ks) σ) ⟨⟩):=(rfl)
theorem W_drawL {ops:List SOper} {ks:List Nat}:W G P (.drawL ops ks) Q env σ tQ=(SR G P ops env σ (λenv σ=>Q .normal (env.keep ks) σ) ⟨⟩):=(rfl)
theorem W_draw {ops:List SOper} {ks:List Nat}:W G P (.draw ops ks) Q env σ tQ=(QR G P ops env σ (λenv=>Q .normal (env.keep ks) σ) ⟨⟩):=(rfl)
theorem W_ghost {ops:List SOper} {ks:List Nat}:W G P (.ghost ops ks) Q env σ tQ=(SR G P ops env σ (λenv σ=>∃D σ',Weak G (env.keep ks) σ D σ'/\Q .normal D σ') ⟨⟩):=(rfl)
theorem W_seq {a b:SCode}:W G P (.seq a b) Q env σ tQ=(W G P a (NR (λenv σ=>W G P b Q env σ ⟨⟩) Q ⟨⟩ ⟨⟩) env σ ⟨⟩):=(rfl)
theorem W_block {i:Nat} {a:SCode}:W G P (.block i a) Q env σ tQ=(W G P a (BL i Q ⟨⟩) env σ ⟨⟩):=(rfl)
theorem W_exit {i:Nat}:W G P (.exit i) Q env σ tQ=(Q (.exit i) env σ):=(rfl)
theorem W_ret:W G P .ret Q env σ tQ=(Q .ret env σ):=(rfl)
theorem W_bad:W G P .bad Q env σ tQ=(False):=(rfl)
theorem AO_raw {op:Op}:AO G P (.raw op) env σ K tK=(RAW G P op env σ K ⟨⟩):=(rfl)
theorem AO_bad:AO G P .bad env σ K tK=(False):=(rfl)
theorem AQ_bad:AQ G P .bad env σ K1 t1=(False):=(rfl)
theorem W_cond {c:SOpd} {a b:SCode}:W G P (.cond c a b) Q env σ tQ=(jl (c.eval G env) (W G P a Q env σ ⟨⟩) (W G P b Q env σ ⟨⟩) ⟨⟩ ⟨⟩):=(rfl)
theorem NR_normal:NR KE Q tE tQ .normal env σ=(KE env σ):=(rfl)
theorem NR_exit {i:Nat}:NR KE Q tE tQ (.exit i) env σ=(Q (.exit i) env σ):=(rfl)
theorem NR_ret:NR KE Q tE tQ .ret env σ=(Q .ret env σ):=(rfl)
theorem BL_normal {i:Nat}:BL i Q tQ .normal env σ=(Q .normal env σ):=(rfl)
theorem mC {i:Nat}:BL i Q tQ (.exit i) env σ=(Q .normal env σ):=by simp[BL,jL]
theorem BL_exit {i j:Nat}:BL i Q tQ (.exit j) env σ=(if j=i then Q .normal env σ else Q (.exit j) env σ):=(rfl)
theorem BL_ret {i:Nat}:BL i Q tQ .ret env σ=(Q .ret env σ):=(rfl)
theorem SR_nil:SR G P [] env σ KE tE=(KE env σ):=(rfl)
theorem SR_none {d:Option Nat} {D:SOp} {rest:List SOper}:SR G P (⟨d,none,D⟩::rest) env σ KE tE=(AO G P D env σ (λr σ'=>SR G P rest (env.put d r) σ' KE ⟨⟩) ⟨⟩):=(rfl)
theorem SR_some {d:Option Nat} {j:Nat} {b:Bool} {D:SOp} {rest:List SOper}:SR G P (⟨d,some (j,b),D⟩::rest) env σ KE tE=(gd_ (env.get j) b (AO G P D (env.set j (.bool b)) σ (λr σ'=>SR G P rest ((env.set j (.bool b)).put d r) σ' KE ⟨⟩) ⟨⟩)
   (SR G P rest ((env.set j (.bool (!b))).put d aC) σ KE ⟨⟩) (SR G P rest (env.put d aC) σ KE ⟨⟩) ⟨⟩ ⟨⟩ ⟨⟩):=(rfl)
theorem QR_nil:QR G P [] env σ KQ tq=(KQ env):=(rfl)
theorem QR_none {d:Option Nat} {D:SOp} {rest:List SOper}:QR G P (⟨d,none,D⟩::rest) env σ KQ tq=(AQ G P D env σ (λr=>QR G P rest (env.put d r) σ KQ ⟨⟩) ⟨⟩):=(rfl)
theorem QR_some {d:Option Nat} {j:Nat} {b:Bool} {D:SOp} {rest:List SOper}:QR G P (⟨d,some (j,b),D⟩::rest) env σ KQ tq=(gd_ (env.get j) b (AQ G P D (env.set j (.bool b)) σ (λr=>QR G P rest ((env.set j (.bool b)).put d r) σ KQ ⟨⟩) ⟨⟩)
   (QR G P rest ((env.set j (.bool (!b))).put d aC) σ KQ ⟨⟩) (QR G P rest (env.put d aC) σ KQ ⟨⟩) ⟨⟩ ⟨⟩ ⟨⟩):=(rfl)
theorem gd_undef {b:Bool} {A B C:Prop} {D:Tag A} {E:Tag B} {F:Tag C}:gd_ aC b A B C D E F=(C):=(rfl)
theorem gd_tt {A B C:Prop} {D:Tag A} {E:Tag B} {F:Tag C}:gd_ (.bool true) true A B C D E F=(A):=by simp[gd_,gd]
theorem gd_tf {A B C:Prop} {D:Tag A} {E:Tag B} {F:Tag C}:gd_ (.bool true) false A B C D E F=(B):=by simp[gd_,gd]
theorem gd_ft {A B C:Prop} {D:Tag A} {E:Tag B} {F:Tag C}:gd_ (.bool false) true A B C D E F=(B):=by simp[gd_,gd]
theorem gd_ff {A B C:Prop} {D:Tag A} {E:Tag B} {F:Tag C}:gd_ (.bool false) false A B C D E F=(A):=by simp[gd_,gd]
theorem put_none {r:AV}:Env.put env none r=(env):=(rfl)
theorem put_some {d:Nat} {r:AV}:Env.put env (some d) r=(env.set d r):=(rfl)
theorem set_nil {d:Nat} {r:AV}:Env.set [] d r=([(d,r)]):=(rfl)
theorem set_cons {k d:Nat} {x r:AV}:Env.set ((k,x)::env) d r=(if k=d then (k,r)::env else (k,x)::Env.set env d r):=(rfl)
theorem get_nil {d:Nat}:Env.get [] d=(.any):=(rfl)
theorem get_cons {k d:Nat} {x:AV}:Env.get ((k,x)::env) d=(if k=d then x else Env.get env d):=(rfl)
theorem keep_nil {ks:List Nat}:Env.keep ks []=([]):=(rfl)
theorem keep_cons {k:Nat} {x:AV} {ks:List Nat}:Env.keep ks ((k,x)::env)=(if ks.contains k then (k,x)::Env.keep ks env else Env.keep ks env):=by simp only[Env.keep,filter_cons]
theorem sget_nil {b:Nat}:Store.get [] b=(none):=(rfl)
theorem sget_cons {k b:Nat} {x:AObj}:Store.get ((k,x)::σ) b=(if k=b then some x else Store.get σ b):=(rfl)
theorem sset_nil {b:Nat} {y:AObj}:Store.set [] b y=([]):=(rfl)
theorem sset_cons {k b:Nat} {x y:AObj}:Store.set ((k,x)::σ) b y=(if k=b then (k,y)::σ else (k,x)::Store.set σ b y):=(rfl)
theorem eval_t {i:Nat}:SOpd.eval G env (.t i)=(env.get i):=(rfl)
theorem eval_c {v:AV}:SOpd.eval G env (.c v)=(v):=(rfl)
theorem eval_f {i:Nat}:SOpd.eval G env (.f i)=(.sc (.func (.func i) #[] #[])):=(rfl)
theorem AO_mov {x:SOpd}:AO G P (.mov x) env σ K tK=((λr=>K r σ) (x.eval G env)):=(rfl)
theorem AQ_mov {x:SOpd}:AQ G P (.mov x) env σ K1 t1=((K1) (x.eval G env)):=(rfl)
theorem AO_pick {c a b:SOpd}:AO G P (.pick c a b) env σ K tK=(fC (c.eval G env) (a.eval G env) (b.eval G env) (λr=>K r σ) ⟨⟩):=(rfl)
theorem AQ_pick {c a b:SOpd}:AQ G P (.pick c a b) env σ K1 t1=(fC (c.eval G env) (a.eval G env) (b.eval G env) (K1) ⟨⟩):=(rfl)
theorem nc {x:SOpd}:AO G P (.nilCheck x) env σ K tK=(kL (x.eval G env) (λr=>K r σ) ⟨⟩):=(rfl)
theorem ny {x:SOpd}:AQ G P (.nilCheck x) env σ K1 t1=(kL (x.eval G env) (K1) ⟨⟩):=(rfl)
theorem AO_load {agg:Bool} {n:Nat} {x:SOpd}:AO G P (.load agg n x) env σ K tK=(kV σ agg n (x.eval G env) (λr=>K r σ) ⟨⟩):=(rfl)
theorem AQ_load {agg:Bool} {n:Nat} {x:SOpd}:AQ G P (.load agg n x) env σ K1 t1=(kV σ agg n (x.eval G env) (K1) ⟨⟩):=(rfl)
theorem AO_build {zero:List AV} {parts:List (Nat×Nat×SOpd)}:AO G P (.build zero parts) env σ K tK=(gP G env zero parts (λcs=>(λr=>K r σ) (.agg cs)) ⟨⟩):=(rfl)
theorem AQ_build {zero:List AV} {parts:List (Nat×Nat×SOpd)}:AQ G P (.build zero parts) env σ K1 t1=(gP G env zero parts (λcs=>(K1) (.agg cs)) ⟨⟩):=(rfl)
theorem AO_fieldA {n:Nat} {x:SOpd}:AO G P (.fieldA n x) env σ K tK=(gK n (x.eval G env) (λr=>K r σ) ⟨⟩):=(rfl)
theorem AQ_fieldA {n:Nat} {x:SOpd}:AQ G P (.fieldA n x) env σ K1 t1=(gK n (x.eval G env) (K1) ⟨⟩):=(rfl)
theorem AO_indexA {n:Nat} {x i:SOpd}:AO G P (.indexA n x i) env σ K tK=(iH n (x.eval G env) (i.eval G env) (λr=>K r σ) ⟨⟩):=(rfl)
theorem AQ_indexA {n:Nat} {x i:SOpd}:AQ G P (.indexA n x i) env σ K1 t1=(iH n (x.eval G env) (i.eval G env) (K1) ⟨⟩):=(rfl)
theorem AO_indexP {m n:Nat} {x i:SOpd}:AO G P (.indexP m n x i) env σ K tK=(iE (i.eval G env) (λk=>0<=k/\k<m/\gK (k.toNat*n) (x.eval G env) (λr=>K r σ) ⟨⟩) ⟨⟩):=(rfl)
theorem AQ_indexP {m n:Nat} {x i:SOpd}:AQ G P (.indexP m n x i) env σ K1 t1=(iE (i.eval G env) (λk=>0<=k/\k<m/\gK (k.toNat*n) (x.eval G env) (K1) ⟨⟩) ⟨⟩):=(rfl)
theorem AO_index {x i:SOpd}:AO G P (.index x i) env σ K tK=(iT (x.eval G env) (λs=>iE (i.eval G env) (λn=>0<=n/\n<s.length/\(λr=>K r σ) (.int .u8 (s.getD n.toNat 0).toNat)) ⟨⟩) ⟨⟩):=(rfl)
theorem AQ_index {x i:SOpd}:AQ G P (.index x i) env σ K1 t1=(iT (x.eval G env) (λs=>iE (i.eval G env) (λn=>0<=n/\n<s.length/\(K1) (.int .u8 (s.getD n.toNat 0).toNat)) ⟨⟩) ⟨⟩):=(rfl)
theorem AO_slice {n:Nat} {x:SOpd} {lo hi:Option SOpd}:AO G P (.slice n x lo hi) env σ K tK=(ff G env n (x.eval G env) lo hi (λr=>K r σ) ⟨⟩):=(rfl)
theorem AQ_slice {n:Nat} {x:SOpd} {lo hi:Option SOpd}:AQ G P (.slice n x lo hi) env σ K1 t1=(ff G env n (x.eval G env) lo hi (K1) ⟨⟩):=(rfl)
theorem AO_sliceS {x:SOpd} {lo hi:Option SOpd}:AO G P (.sliceS x lo hi) env σ K tK=(iT (x.eval G env) (λs=>db G env 0 lo (λl=>db G env s.length hi (λh=>0<=l/\l<=h/\h<=s.length/\(λr=>K r σ) (.str ((s.take h.toNat).drop l.toNat))) ⟨⟩) ⟨⟩) ⟨⟩):=(rfl)
theorem AQ_sliceS {x:SOpd} {lo hi:Option SOpd}:AQ G P (.sliceS x lo hi) env σ K1 t1=(iT (x.eval G env) (λs=>db G env 0 lo (λl=>db G env s.length hi (λh=>0<=l/\l<=h/\h<=s.length/\(K1) (.str ((s.take h.toNat).drop l.toNat))) ⟨⟩) ⟨⟩) ⟨⟩):=(rfl)
theorem AO_field {agg:Bool} {m n:Nat} {x:SOpd}:AO G P (.field agg m n x) env σ K tK=(kg (x.eval G env) (λcs=>fH agg n (cs.drop m) (λr=>K r σ) ⟨⟩) ⟨⟩):=(rfl)
theorem AQ_field {agg:Bool} {m n:Nat} {x:SOpd}:AQ G P (.field agg m n x) env σ K1 t1=(kg (x.eval G env) (λcs=>fH agg n (cs.drop m) (K1) ⟨⟩) ⟨⟩):=(rfl)
theorem oI {n:Nat} {x:SOpd}:AO G P (.extract n x) env σ K tK=(tupX_ n (x.eval G env) (λr=>K r σ) ⟨⟩):=(rfl)
theorem pf {n:Nat} {x:SOpd}:AQ G P (.extract n x) env σ K1 t1=(tupX_ n (x.eval G env) (K1) ⟨⟩):=(rfl)
theorem AO_bin {op:BinOp} {x y:SOpd}:AO G P (.bin op x y) env σ K tK=(bB op (x.eval G env) (y.eval G env) (λr=>K r σ) ⟨⟩):=(rfl)
theorem AQ_bin {op:BinOp} {x y:SOpd}:AQ G P (.bin op x y) env σ K1 t1=(bB op (x.eval G env) (y.eval G env) (K1) ⟨⟩):=(rfl)
theorem AO_eqb {n:Bool} {x y:SOpd}:AO G P (.eqb n x y) env σ K tK=(ir (x.eval G env) (λa=>ir (y.eval G env) (λb=>(λr=>K r σ) (.bool (if n then a != b else a==b))) ⟨⟩) ⟨⟩):=(rfl)
theorem AQ_eqb {n:Bool} {x y:SOpd}:AQ G P (.eqb n x y) env σ K1 t1=(ir (x.eval G env) (λa=>ir (y.eval G env) (λb=>(K1) (.bool (if n then a != b else a==b))) ⟨⟩) ⟨⟩):=(rfl)
theorem AO_eqs {b:Bool} {ks:List Nat} {x y:SOpd}:AO G P (.eqs b ks x y) env σ K tK=(kg (x.eval G env) (λxs=>kg (y.eval G env) (λys=>eqsX_ b ks xs ys (λr=>K r σ) ⟨⟩) ⟨⟩) ⟨⟩):=(rfl)
theorem AQ_eqs {b:Bool} {ks:List Nat} {x y:SOpd}:AQ G P (.eqs b ks x y) env σ K1 t1=(kg (x.eval G env) (λxs=>kg (y.eval G env) (λys=>eqsX_ b ks xs ys (K1) ⟨⟩) ⟨⟩) ⟨⟩):=(rfl)
theorem AO_eqnil {n:Nat} {b:Bool} {x:SOpd}:AO G P (.eqnil n b x) env σ K tK=(dI n b (x.eval G env) (λr=>K r σ) ⟨⟩):=(rfl)
theorem AQ_eqnil {n:Nat} {b:Bool} {x:SOpd}:AQ G P (.eqnil n b x) env σ K1 t1=(dI n b (x.eval G env) (K1) ⟨⟩):=(rfl)
theorem AO_not {x:SOpd}:AO G P (.not x) env σ K tK=(ir (x.eval G env) (λb=>(λr=>K r σ) (.bool (!b))) ⟨⟩):=(rfl)
theorem AQ_not {x:SOpd}:AQ G P (.not x) env σ K1 t1=(ir (x.eval G env) (λb=>(K1) (.bool (!b))) ⟨⟩):=(rfl)
theorem AO_conv {k:IntKind} {x:SOpd}:AO G P (.conv k x) env σ K tK=(convX_ k (x.eval G env) (λr=>K r σ) ⟨⟩):=(rfl)
theorem AQ_conv {k:IntKind} {x:SOpd}:AQ G P (.conv k x) env σ K1 t1=(convX_ k (x.eval G env) (K1) ⟨⟩):=(rfl)
theorem AO_str {x:SOpd}:AO G P (.str x) env σ K tK=(iT (x.eval G env) (λs=>(λr=>K r σ) (.str s)) ⟨⟩):=(rfl)
theorem AQ_str {x:SOpd}:AQ G P (.str x) env σ K1 t1=(iT (x.eval G env) (λs=>(K1) (.str s)) ⟨⟩):=(rfl)
theorem AO_len {x:SOpd}:AO G P (.len x) env σ K tK=(lC (x.eval G env) (λr=>K r σ) ⟨⟩):=(rfl)
theorem AQ_len {x:SOpd}:AQ G P (.len x) env σ K1 t1=(lC (x.eval G env) (K1) ⟨⟩):=(rfl)
theorem AO_lenS {x:SOpd}:AO G P (.lenS x) env σ K tK=(iT (x.eval G env) (λs=>(λr=>K r σ) (.int .i64 s.length)) ⟨⟩):=(rfl)
theorem AQ_lenS {x:SOpd}:AQ G P (.lenS x) env σ K1 t1=(iT (x.eval G env) (λs=>(K1) (.int .i64 s.length)) ⟨⟩):=(rfl)
theorem AO_mkfun {f:Fn} {a b:List SOpd}:AO G P (.mkfun f a b) env σ K tK=(kK G env a (λvs=>kK G env b (λus=>(λr=>K r σ) (.sc (.func f vs.toArray us.toArray))) ⟨⟩) ⟨⟩):=(rfl)
theorem AQ_mkfun {f:Fn} {a b:List SOpd}:AQ G P (.mkfun f a b) env σ K1 t1=(kK G env a (λvs=>kK G env b (λus=>(K1) (.sc (.func f vs.toArray us.toArray))) ⟨⟩) ⟨⟩):=(rfl)
theorem AO_alloc {e:TypeId} {zero:List AV}:AO G P (.alloc e zero) env σ K tK=(newX_ σ (λb=>K (.sc (.pointer (some ⟨b,0,none⟩))) ((b,.cells e zero)::σ)) ⟨⟩):=(rfl)
theorem AO_box {e:TypeId} {n:Nat} {x:SOpd}:AO G P (.box e n x) env σ K tK=(aV (x.eval G env) (λc=>c.length=n/\newX_ σ (λb=>K (.sc (.pointer (some ⟨b,0,none⟩))) ((b,.cells e c)::σ)) ⟨⟩) ⟨⟩):=(rfl)
theorem AO_boxR {n:Nat} {x:SOpd}:AO G P (.boxR n x) env σ K tK=(aV (x.eval G env) (λc=>c.length=n/\K (.ref c) σ) ⟨⟩):=(rfl)
theorem AO_loadF {agg:Bool} {n:Nat} {x:SOpd}:AO G P (.loadF agg n x) env σ K tK=(refX_ (x.eval G env) (λcs=>fH agg n cs (λr=>K r σ) ⟨⟩) ⟨⟩):=(rfl)
theorem refX_ref {cs:List AV}:refX_ (.ref cs) KL tL=(KL cs):=(rfl)
theorem W_drawT {t:DT} {ks:List Nat}:W G P (.drawT t ks) Q env σ tQ=(TR G P t env σ (λenv σ=>∃D σ',Weak G (env.keep ks) σ D σ'/\Q .normal D σ') ⟨⟩):=(rfl)
theorem TR_done:TR G P .done env σ KE tE=(KE env σ):=(rfl)
theorem TR_none {d:Option Nat} {D:SOp} {t:DT}:TR G P (.step ⟨d,none,D⟩ t) env σ KE tE=(AO G P D env σ (λr σ'=>TR G P t (env.put d r) σ' KE ⟨⟩) ⟨⟩):=(rfl)
theorem TR_some {d:Option Nat} {j:Nat} {b:Bool} {D:SOp} {t:DT}:TR G P (.step ⟨d,some (j,b),D⟩ t) env σ KE tE=(gd_ (env.get j) b (AO G P D (env.set j (.bool b)) σ (λr σ'=>TR G P t ((env.set j (.bool b)).put d r) σ' KE ⟨⟩) ⟨⟩)
   (TR G P t ((env.set j (.bool (!b))).put d aC) σ KE ⟨⟩) (TR G P t (env.put d aC) σ KE ⟨⟩) ⟨⟩ ⟨⟩ ⟨⟩):=(rfl)
theorem AO_buildS {e:TypeId} {sz len:Nat} {zero:List AV} {parts:List (Nat×SOpd)}:AO G P (.buildS e sz len zero parts) env σ K tK=(gP G env zero (parts.map λp=>(p.1*sz,sz,p.2)) (λcs=>
   newX_ σ (λb=>∃rows:List (List AV),rows.length=len/\(∀r∈rows,r.length=sz)/\rows.flatten=cs/\K (.own (some b) e sz rows) ((b,.tok e (len*sz))::σ)) ⟨⟩) ⟨⟩):=(rfl)
theorem AO_store {n:Nat} {x y:SOpd}:AO G P (.store n x y) env σ K tK=(ptrX_ (x.eval G env) (λb o=>kA (σ.get b) (λe cs=>aV (y.eval G env) (λc=>
   c.length=n/\o+n<=cs.length/\K aC (σ.set b (.cells e (aH cs o c)))) ⟨⟩) ⟨⟩) ⟨⟩):=(rfl)
theorem AO_append {e:TypeId} {sz bytes:Nat} {x y:SOpd}:AO G P (.append e sz bytes x y) env σ K tK=(ownX_ e sz (x.eval G env) (λg rows=>srcX_ sz (y.eval G env) (λys=>appX e sz bytes σ g rows ys K) ⟨⟩) ⟨⟩):=(rfl)
theorem AO_call {f:SOpd} {args:List SOpd}:AO G P (.call f args) env σ K tK=(scX_ (f.eval G env) (λv=>CALL G P v (args.map (·.eval G env)) σ K ⟨⟩) ⟨⟩):=(rfl)
theorem AO_invoke {x:SOpd} {name:String} {args:List SOpd}:AO G P (.invoke x name args) env σ K tK=(scX_ (x.eval G env) (λv=>INV G P v name (args.map (·.eval G env)) σ K ⟨⟩) ⟨⟩):=(rfl)
theorem AO_mkI {t:TypeId} {x:SOpd}:AO G P (.mkI t x) env σ K tK=(scX_ (x.eval G env) (λv=>K (.sc (.iface t v)) σ) ⟨⟩):=(rfl)
theorem AQ_mkI {t:TypeId} {x:SOpd}:AQ G P (.mkI t x) env σ K1 t1=(scX_ (x.eval G env) (λv=>K1 (.sc (.iface t v))) ⟨⟩):=(rfl)
theorem AQ_call {f:SOpd} {args:List SOpd}:AQ G P (.call f args) env σ K1 t1=(scX_ (f.eval G env) (λv=>QCALL G P v (args.map (·.eval G env)) K1 ⟨⟩) ⟨⟩):=(rfl)
theorem nR {x y:AV}:fC (.bool true) x y K1 t1=(K1 x):=by simp[fC,jg]
theorem mn {x y:AV}:fC (.bool false) x y K1 t1=(K1 y):=by simp[fC,jg]
theorem nilAV_ref {cs:List AV}:kL (.ref cs) K1 t1=(K1 (.ref cs)):=(rfl)
theorem nilAV_ptr {a:Addr}:kL (.sc (.pointer (some a))) K1 t1=(K1 (.sc (.pointer (some a)))):=(rfl)
theorem nilAV_fun {k:Nat} {fs cs:Array Value}:kL (.sc (.func (.func k) fs cs)) K1 t1=(K1 (.sc (.func (.func k) fs cs))):=(rfl)
theorem rV {e:TypeId} {cs:List AV}:kA (some (.cells e cs)) KT tT=(KT e cs):=(rfl)
theorem loadX_ref {agg:Bool} {n:Nat} {cs:List AV}:kV σ agg n (.ref cs) K1 t1=(fH agg n cs K1 ⟨⟩):=(rfl)
theorem loadX_ptr {agg:Bool} {n b o:Nat}:kV σ agg n (.sc (.pointer (some ⟨b,o,none⟩))) K1 t1=(kA (σ.get b) (λ_ cs=>fH agg n (cs.drop o) K1 ⟨⟩) ⟨⟩):=(rfl)
theorem om {n:Nat} {cs:List AV}:fH true n cs K1 t1=(n<=cs.length/\K1 (.agg (cs.take n))):=(rfl)
theorem oQ {n:Nat} {cs:List AV}:fH false n cs K1 t1=(n<=cs.length/\K1 (cs.headD .any)):=(rfl)
theorem o6 {n:Nat} {cs:List AV}:gK n (.ref cs) K1 t1=(K1 (.ref (cs.drop n))):=(rfl)
theorem oO {n b o:Nat}:gK n (.sc (.pointer (some ⟨b,o,none⟩))) K1 t1=(K1 (.sc (.pointer (some ⟨b,o+n,none⟩)))):=(rfl)
theorem or {n m:Nat} {rows:List (List AV)} {i:AV}:iH n (.lst m rows) i K1 t1=(n=m/\iE i (λm=>0<=m/\m<rows.length/\K1 (.ref (rows.getD m.toNat []))) ⟨⟩):=(rfl)
theorem pb {n m e:Nat} {g:Option Nat} {rows:List (List AV)} {i:AV}:iH n (.own g e m rows) i K1 t1=(n=m/\iE i (λm=>0<=m/\m<rows.length/\K1 (.ref (rows.getD m.toNat []))) ⟨⟩):=(rfl)
theorem pd {n b o l c:Nat} {i:AV}:iH n (.sc (.slice (some ⟨b,o,none⟩) l c)) i K1 t1=(iE i (λm=>0<=m/\m<l/\K1 (.sc (.pointer (some ⟨b,o+m.toNat*n,none⟩)))) ⟨⟩):=(rfl)
theorem intX_int {k:IntKind} {n:Int}:iE (.int k n) KI tI=(KI n):=(rfl)
theorem ou {n:Nat} {rows:List (List AV)}:rowsOf_ (.lst n rows) KR tR=(KR n rows):=(rfl)
theorem oC {g:Option Nat} {e n:Nat} {rows:List (List AV)}:rowsOf_ (.own g e n rows) KR tR=(KR n rows):=(rfl)
theorem strX_str {s:List UInt8}:iT (.str s) KS tS=(KS s):=(rfl)
theorem aggX_agg {cs:List AV}:kg (.agg cs) KL tL=(KL cs):=(rfl)
theorem tupX_tup {n:Nat} {cs:List AV}:tupX_ n (.tup cs) K1 t1=(n<cs.length/\K1 (cs.getD n .any)):=(rfl)
theorem oq {b:Bool}:ir (.bool b) KB tB=(KB b):=(rfl)
theorem eqnil_nil {b:Bool}:dI 0 b .nil K1 t1=(K1 (.bool (!b))):=(rfl)
theorem eqnil_lst {b:Bool} {n:Nat} {rows:List (List AV)}:dI 0 b (.lst n rows) K1 t1=(∀c,(rows≠[]->c=b)->K1 (.bool c)):=(rfl)
theorem eqnil_own {b:Bool} {g:Option Nat} {e n:Nat} {rows:List (List AV)}:dI 0 b (.own g e n rows) K1 t1=(K1 (.bool (if b then g.isSome else g.isNone))):=(rfl)
theorem eqnil_map {b:Bool} {r:Option Nat}:dI 1 b (.sc (.map r)) K1 t1=(K1 (.bool (if b then r.isSome else r.isNone))):=(rfl)
theorem eqnil_fun {b:Bool} {f:Fn} {x y:Array Value}:dI 2 b (.sc (.func f x y)) K1 t1=(K1 (.bool b)):=(rfl)
theorem na {b:Bool}:dI 2 b (.sc .nilFunc) K1 t1=(K1 (.bool (!b))):=(rfl)
theorem eqnil_ptr {b:Bool} {r:Option Addr}:dI 3 b (.sc (.pointer r)) K1 t1=(K1 (.bool (if b then r.isSome else r.isNone))):=(rfl)
theorem eqnil_ref {b:Bool} {cs:List AV}:dI 3 b (.ref cs) K1 t1=(K1 (.bool b)):=(rfl)
theorem eqsX_some {b:Bool} {ks:List Nat} {xs ys:List AV}:eqsX_ b ks xs ys K1 t1=(eqvX_ b (eqAV ks xs ys) K1 ⟨⟩):=rfl
theorem eqvX_some {b r:Bool}:eqvX_ b (some r) K1 t1=(K1 (.bool (if b then !r else r))):=(rfl)
theorem eqAV_nil:eqAV [] [] []=(some true):=(rfl)
theorem eqAV_0 {ks:List Nat} {a b:Bool} {xs ys:List AV}:eqAV (0::ks) (.bool a::xs) (.bool b::ys)=((eqAV ks xs ys).map ((a==b)&& ·)):=(rfl)
theorem eqAV_1 {ks:List Nat} {k:IntKind} {a b:Int} {xs ys:List AV}:eqAV (1::ks) (.int k a::xs) (.int k b::ys)=((eqAV ks xs ys).map (decide (a=b)&& ·)):=by simp[eqAV]
theorem eqAV_2 {ks:List Nat} {a b:List UInt8} {xs ys:List AV}:eqAV (2::ks) (.str a::xs) (.str b::ys)=((eqAV ks xs ys).map (decide (a=b)&& ·)):=(rfl)
theorem conv_int {k j:IntKind} {n:Int}:convX_ k (.int j n) K1 t1=(K1 (.int k (k.wrap n))):=(rfl)
theorem len_lst {n:Nat} {rows:List (List AV)}:lC (.lst n rows) K1 t1=(K1 (.int .i64 rows.length)):=(rfl)
theorem len_own {g:Option Nat} {e n:Nat} {rows:List (List AV)}:lC (.own g e n rows) K1 t1=(K1 (.int .i64 rows.length)):=(rfl)
theorem len_nil:lC .nil K1 t1=(K1 (.int .i64 0)):=(rfl)
theorem len_sc {r:Option Addr} {n c:Nat}:lC (.sc (.slice r n c)) K1 t1=(K1 (.int .i64 n)):=(rfl)
theorem scX_sc {v:Value}:scX_ (.sc v) KV tV=(KV v):=(rfl)
theorem scsX_nil:kK G env [] KVs tVs=(KVs []):=(rfl)
theorem scsX_cons {x:SOpd} {xs:List SOpd}:kK G env (x::xs) KVs tVs=(scX_ (x.eval G env) (λv=>kK G env xs (λvs=>KVs (v::vs)) ⟨⟩) ⟨⟩):=(rfl)
theorem ownX_nil {e n:Nat}:ownX_ e n .nil KO tO=(KO none []):=(rfl)
theorem ownX_own {e n D E:Nat} {g:Option Nat} {rows:List (List AV)}:ownX_ e n (.own g D E rows) KO tO=(D=e/\E=n/\KO g rows):=(rfl)
theorem srcX_nil {n:Nat}:srcX_ n .nil KRs tRs=(KRs []):=(rfl)
theorem srcX_lst {n m:Nat} {rows:List (List AV)}:srcX_ n (.lst m rows) KRs tRs=(m=n/\KRs rows):=(rfl)
theorem srcX_own {n m e:Nat} {g:Option Nat} {rows:List (List AV)}:srcX_ n (.own g e m rows) KRs tRs=(m=n/\KRs rows):=(rfl)
theorem ptrX_ptr {b o:Nat}:ptrX_ (.sc (.pointer (some ⟨b,o,none⟩))) KP tP=(KP b o):=(rfl)
theorem newX_eq:newX_ σ KN tN=(∀b,b∉σ.keys->KN b):=(rfl)
theorem oj {b:Bool}:aV (.bool b) KL tL=(KL [.bool b]):=(rfl)
theorem cells_int {k:IntKind} {n:Int}:aV (.int k n) KL tL=(KL [.int k n]):=(rfl)
theorem cells_str {s:List UInt8}:aV (.str s) KL tL=(KL [.str s]):=(rfl)
theorem cells_nil:aV (.nil) KL tL=(KL [.nil]):=(rfl)
theorem cells_lst {m:Nat} {rows:List (List AV)}:aV (.lst m rows) KL tL=(KL [.lst m rows]):=(rfl)
theorem cells_own {g:Option Nat} {e m:Nat} {rows:List (List AV)}:aV (.own g e m rows) KL tL=(KL [.own g e m rows]):=(rfl)
theorem cells_ref {cs:List AV}:aV (.ref cs) KL tL=(KL [.ref cs]):=(rfl)
theorem cells_agg {cs:List AV}:aV (.agg cs) KL tL=(KL cs):=(rfl)
theorem cells_fun {f:Fn} {x y:Array Value}:aV (.sc (.func f x y)) KL tL=(KL [.sc (.func f x y)]):=(rfl)
theorem nS:aV (.sc .nilFunc) KL tL=(KL [.sc .nilFunc]):=(rfl)
theorem cells_ptr {r:Option Addr}:aV (.sc (.pointer r)) KL tL=(KL [.sc (.pointer r)]):=(rfl)
theorem cells_map {r:Option Nat}:aV (.sc (.map r)) KL tL=(KL [.sc (.map r)]):=(rfl)
theorem oa {r:Option Addr} {n c:Nat}:aV (.sc (.slice r n c)) KL tL=(KL [.sc (.slice r n c)]):=(rfl)
theorem fill_nil {cs:List AV}:gP G env cs [] KL tL=(KL cs):=(rfl)
theorem fill_cons {cs:List AV} {o n:Nat} {x:SOpd} {ps:List (Nat×Nat×SOpd)}:gP G env cs ((o,n,x)::ps) KL tL=(aV (x.eval G env) (λc=>c.length=n/\o+n<=cs.length/\gP G env (aH cs o c) ps KL ⟨⟩) ⟨⟩):=(rfl)
theorem m9 {l c:List AV}:aH l 0 c=(c++l.drop c.length):=by cases l<;>rfl
theorem nk {x:AV} {l c:List AV} {n:Nat}:aH (x::l) (n+1) c=(x::aH l n c):=(rfl)
theorem bin_eql {k:IntKind} {a b:Int}:bB .eql (.int k a) (.int k b) K1 t1=(K1 (.bool (decide (a=b)))):=by simp[bB,er]
theorem bin_neq {k:IntKind} {a b:Int}:bB .neq (.int k a) (.int k b) K1 t1=(K1 (.bool (decide (a≠b)))):=by simp[bB,er]
theorem bin_lss {k:IntKind} {a b:Int}:bB .lss (.int k a) (.int k b) K1 t1=(K1 (.bool (decide (a<b)))):=by simp[bB,er]
theorem bin_leq {k:IntKind} {a b:Int}:bB .leq (.int k a) (.int k b) K1 t1=(K1 (.bool (decide (a<=b)))):=by simp[bB,er]
theorem bin_gtr {k:IntKind} {a b:Int}:bB .gtr (.int k a) (.int k b) K1 t1=(K1 (.bool (decide (b<a)))):=by simp[bB,er]
theorem bin_geq {k:IntKind} {a b:Int}:bB .geq (.int k a) (.int k b) K1 t1=(K1 (.bool (decide (b<=a)))):=by simp[bB,er]
theorem bin_add {k:IntKind} {a b:Int}:bB .add (.int k a) (.int k b) K1 t1=(K1 (.int k (k.wrap (a+b)))):=by simp[bB,er]
theorem bin_sub {k:IntKind} {a b:Int}:bB .sub (.int k a) (.int k b) K1 t1=(K1 (.int k (k.wrap (a-b)))):=by simp[bB,er]
theorem bin_mul {k:IntKind} {a b:Int}:bB .mul (.int k a) (.int k b) K1 t1=(K1 (.int k (k.wrap (a*b)))):=by simp[bB,er]
theorem bin_quo {k:IntKind} {a b:Int}:bB .quo (.int k a) (.int k b) K1 t1=(b≠0/\K1 (.int k (k.wrap (a.tdiv b)))):=by simp[bB,er]
theorem bin_rem {k:IntKind} {a b:Int}:bB .rem (.int k a) (.int k b) K1 t1=(b≠0/\K1 (.int k (a.tmod b))):=by simp[bB,er]
theorem bin_adds {a b:List UInt8}:bB .add (.str a) (.str b) K1 t1=(a.length+b.length<9223372036854775808/\K1 (.str (a++b))):=(rfl)
theorem bin_eqls {a b:List UInt8}:bB .eql (.str a) (.str b) K1 t1=(K1 (.bool (decide (a=b)))):=(rfl)
theorem bin_neqs {a b:List UInt8}:bB .neq (.str a) (.str b) K1 t1=(K1 (.bool (decide (a≠b)))):=(rfl)
theorem bin_lsss {a b:List UInt8}:bB .lss (.str a) (.str b) K1 t1=(K1 (.bool (Op.bytesLess a b))):=(rfl)
theorem bin_gtrs {a b:List UInt8}:bB .gtr (.str a) (.str b) K1 t1=(K1 (.bool (!(Op.bytesLess a b||decide (a=b))))):=(rfl)
theorem slice_lst {n m:Nat} {rows:List (List AV)} {lo hi:Option SOpd}:ff G env n (.lst m rows) lo hi K1 t1=(db G env 0 lo (λl=>db G env rows.length hi (λh=>n=m/\0<=l/\l<=h/\h<=rows.length/\K1 (.lst n ((rows.take h.toNat).drop l.toNat))) ⟨⟩) ⟨⟩):=(rfl)
theorem slice_own {n m e:Nat} {g:Option Nat} {rows:List (List AV)} {lo hi:Option SOpd}:ff G env n (.own g e m rows) lo hi K1 t1=(db G env 0 lo (λl=>db G env rows.length hi (λh=>n=m/\0<=l/\l<=h/\h<=rows.length/\K1 (.lst n ((rows.take h.toNat).drop l.toNat))) ⟨⟩) ⟨⟩):=(rfl)
theorem slice_raw {n b o k c:Nat} {lo hi:Option SOpd}:ff G env n (.sc (.slice (some ⟨b,o,none⟩) k c)) lo hi K1 t1=(db G env 0 lo (λl=>db G env k hi (λh=>0<=l/\l<=h/\h<=k/\k<=c/\l<c/\K1 (.sc (.slice (some ⟨b,o+l.toNat*n,none⟩) (h.toNat-l.toNat) (c-l.toNat)))) ⟨⟩) ⟨⟩):=(rfl)
theorem slice_nil {n:Nat} {lo hi:Option SOpd}:ff G env n .nil lo hi K1 t1=(db G env 0 lo (λl=>db G env 0 hi (λh=>l=0/\h=0/\K1 .nil) ⟨⟩) ⟨⟩):=(rfl)
theorem ow {d:Int}:db G env d none KI tI=(KI d):=(rfl)
theorem oZ {d:Int} {x:SOpd}:db G env d (some x) KI tI=(iE (x.eval G env) KI ⟨⟩):=(rfl)
end
theorem jf {G:Glob} {P:Program} {a:SCode} {Q:Exit->Env->Store->Prop} {tQ:Tag Q} {env:Env} {σ:Store} {ι:Type} (ok:ι->Prop) (I:ι->Nat) (st:ι->Env) (F:ι->Store)
  (M:ι) (X:ok M) (N:Weak G env σ (st M) (F M))
  (round:∀i,ok i->W G P a (NR (λD σ'=>∃j,ok j/\I j<I i/\Weak G D σ' (st j) (F j)) Q ⟨⟩ ⟨⟩) (st i) (F i) ⟨⟩):W G P (.loop a) Q env σ tQ:=by
 refine⟨λn e s=>∃i,ok i/\I i=n/\e=st i/\s=F i,I M,st M,F M,⟨M,X,rfl,rfl,rfl⟩,N,?_⟩
 rintro n e s ⟨i,hi,rfl,rfl,rfl⟩
 have:=round i hi
 have V:(fh (λD σ'=>∃m E J,m<I i/\(∃j,ok j/\I j=m/\E=st j/\J=F j)/\Weak G D σ' E J) Q)
   =(fh (λD σ'=>∃j,ok j/\I j<I i/\Weak G D σ' (st j) (F j)) Q):=by
  congr 1
  funext D σ'
  apply propext
  constructor
  ·rintro⟨m,e,s,T,⟨j,O,rfl,rfl,rfl⟩,N⟩;exact⟨j,O,T,N⟩
  ·rintro⟨j,O,T,N⟩;exact⟨_,_,_,T,⟨j,O,rfl,rfl,rfl⟩,N⟩
 show swp G P a _ (st i) (F i)
 rw[V]
 exact this
theorem ab {x:Bool} {A B:Prop} {F:Tag A} {I:Tag B} (D:x=true->A) (E:x=false->B):jl (.bool x) A B F I:=⟨D,E⟩
theorem ai {x b:Bool} {A B C:Prop} {F:Tag A} {I:Tag B} {J:Tag C} (D:x=b->A) (E:x= !b->B):gd_ (.bool x) b A B C F I J:=⟨D,E⟩
theorem aj {t:Bool} {x y:AV} {K1:AV->Prop} {t1:Tag K1} (D:t=true->K1 x) (E:t=false->K1 y):fC (.bool t) x y K1 t1:=⟨D,E⟩
set_option linter.defProp false
def EV1:=(AI (AI (AI (AI (AI @oz (AI @nq @W_skip)) (AI @W_region (AI @W_drawL @W_draw))) (AI (AI @W_ghost (AI @W_seq @W_block)) (AI @W_exit (AI @W_ret @W_bad)))) (AI (AI (AI @AO_raw (AI @AO_bad @AQ_bad)) (AI @W_cond (AI @NR_normal @NR_exit))) (AI (AI @NR_ret (AI @BL_normal @mC)) (AI @BL_exit (AI @BL_ret @SR_nil))))) (AI (AI (AI (AI @SR_none (AI @SR_some @QR_nil)) (AI @QR_none (AI @QR_some @gd_undef))) (AI (AI @gd_tt (AI @gd_tf @gd_ft)) (AI @gd_ff (AI @put_none @put_some)))) (AI (AI (AI @set_nil (AI @set_cons @get_nil)) (AI @get_cons (AI @keep_nil @keep_cons))) (AI (AI @sget_nil (AI @sget_cons @sset_nil)) (AI (AI @sset_cons @eval_t) (AI @eval_c @eval_f))))))
def EV2:=(AI (AI (AI (AI (AI @AO_mov (AI @AQ_mov @AO_pick)) (AI @AQ_pick (AI @nc @ny))) (AI (AI @AO_load (AI @AQ_load @AO_build)) (AI @AQ_build (AI @AO_fieldA @AQ_fieldA)))) (AI (AI (AI @AO_indexA (AI @AQ_indexA @AO_indexP)) (AI @AQ_indexP (AI @AO_index @AQ_index))) (AI (AI @AO_slice (AI @AQ_slice @AO_sliceS)) (AI @AQ_sliceS (AI @AO_field @AQ_field))))) (AI (AI (AI (AI @oI (AI @pf @AO_bin)) (AI @AQ_bin (AI @AO_eqb @AQ_eqb))) (AI (AI @AO_eqs (AI @AQ_eqs @AO_eqnil)) (AI @AQ_eqnil (AI @AO_not @AQ_not)))) (AI (AI (AI @AO_conv (AI @AQ_conv @AO_str)) (AI @AQ_str (AI @AO_len @AQ_len))) (AI (AI @AO_lenS (AI @AQ_lenS @AO_mkfun)) (AI (AI @AQ_mkfun @AO_alloc) (AI (AI (AI (AI (AI @W_drawT @TR_done) (AI @TR_none @TR_some)) (AI @AO_loadF @refX_ref)) (AI @AO_box @AO_boxR)) @AO_buildS))))))
def EV3:=(AI (AI (AI (AI (AI @AO_store (AI @AO_append @AO_call)) (AI @AO_invoke (AI @AO_mkI @AQ_mkI))) (AI (AI @AQ_call (AI @nR @mn)) (AI @nilAV_ref (AI @nilAV_ptr @nilAV_fun)))) (AI (AI (AI @rV (AI @loadX_ref @loadX_ptr)) (AI @om (AI @oQ @o6))) (AI (AI @oO (AI @or @pb)) (AI @pd (AI @intX_int @ou))))) (AI (AI (AI (AI @oC (AI @strX_str @aggX_agg)) (AI @tupX_tup (AI @oq @eqnil_nil))) (AI (AI @eqnil_lst (AI @eqnil_own @eqnil_map)) (AI @eqnil_fun (AI @na @eqnil_ptr)))) (AI (AI (AI @eqnil_ref (AI @eqsX_some @eqvX_some)) (AI @eqAV_nil (AI @eqAV_0 @eqAV_1))) (AI (AI @eqAV_2 (AI @conv_int @len_lst)) (AI (AI @len_own @len_nil) (AI @scX_sc @scsX_nil))))))
def EV4:=(AI (AI (AI (AI (AI @scsX_cons @ownX_nil) (AI @ownX_own (AI @srcX_nil @srcX_lst))) (AI (AI @srcX_own (AI @ptrX_ptr @newX_eq)) (AI @oj (AI @cells_int @cells_str)))) (AI (AI (AI @cells_nil (AI @cells_lst @cells_own)) (AI @cells_ref (AI @cells_agg @cells_fun))) (AI (AI @nS (AI @cells_ptr @cells_map)) (AI @fill_nil (AI @fill_cons @m9))))) (AI (AI (AI (AI @nk @bin_eql) (AI @bin_neq (AI @bin_lss @bin_leq))) (AI (AI @bin_gtr (AI @bin_geq @bin_add)) (AI @bin_sub (AI @bin_mul @bin_quo)))) (AI (AI (AI @bin_rem (AI @bin_adds @bin_eqls)) (AI @bin_neqs (AI @bin_lsss @bin_gtrs))) (AI (AI @slice_lst (AI @slice_own @slice_raw)) (AI @slice_nil (AI @ow (AI @oZ (AI @len_sc @oa))))))))
end
theorem Rep.ofOne (σ:Store) (w:World) (v:Value):Rep σ w (AV.ofOne v) v:=by
 cases v<;>first
  |(simp only[AV.ofOne,Rep];done)
  |skip
 case slice a n c=>
  cases a<;>cases n<;>cases c<;>simp only[AV.ofOne,Rep]
theorem RepL.ofOnes (σ:Store) (w:World):∀vs:List Value,RepL σ w (vs.map AV.ofOne) vs
 |[]=>by simp[RepL]
 |v::vs=>by simp only[map_cons,RepL];exact⟨v,vs,rfl,Rep.ofOne σ w v,RepL.ofOnes σ w vs⟩
theorem Rep.ofValue (σ:Store) (w:World) (v:Value):Rep σ w (AV.ofValue v) v:=by
 cases v with
 |agg cs=>
  simp only[AV.ofValue]
  split
  ·rename_i h
   simp only[Rep]
   exact⟨cs,rfl,λv D=>all_eq_true.1 h v D,RepL.ofOnes σ w _⟩
  ·simp only[Rep]
 |_=>simp only[AV.ofValue];exact Rep.ofOne σ w _
theorem RepL.ofValues (σ:Store) (w:World):∀vs:List Value,RepL σ w (vs.map AV.ofValue) vs
 |[]=>by simp[RepL]
 |v::vs=>by simp only[map_cons,RepL];exact⟨v,vs,rfl,Rep.ofValue σ w v,RepL.ofValues σ w vs⟩
theorem aR.rfl' (x:AV):aR x x:=Or.inl rfl
theorem AVle.rfl' (x:AV):AVle x x:=Or.inl (Or.inl rfl)
theorem ax.rfl':∀xs:List AV,ax xs xs
 |[]=>trivial
 |x::xs=>⟨AVle.rfl' x,ax.rfl' xs⟩
theorem aR.rep {σ:Store} {w:World} {x y:AV} (h:aR x y) {u:Value} (D:Rep σ w x u):Rep σ w y u:=by
 rcases h with rfl|h
 ·exact D
 ·cases y with
  |any=>simp only[Rep]
  |lst sz' r'=>
   cases x with
   |own b e sz r=>
    obtain⟨rfl,rfl⟩:=h
    cases b with
    |none=>simp only[Rep]at*;exact .inl D
    |some b=>
     simp only[Rep]at*
     obtain⟨cap,E,F,I,M,J⟩:=D
     exact .inr ⟨_,cap,E,F,I,J⟩
   |nil=>
    have h:r'=[]:=h
    simp only[Rep]at*
    exact .inl ⟨D,h⟩
   |_=>exact h.elim
  |own g e sz r=>
   cases x with
   |nil=>
    obtain⟨rfl,rfl⟩:=h
    simp only[Rep]at*
    exact⟨D,trivial⟩
   |_=>exact h.elim
  |nil=>
   cases x with
   |own g e sz r=>
    have h:g=none:=h
    subst h
    simp only[Rep]at*
    exact D.1
   |_=>exact h.elim
  |sc v=>
   cases x with
   |nil=>
    have h:v= .slice none 0 0:=h
    subst h
    simp only[Rep]at*
    exact D
   |_=>exact h.elim
  |_=>cases x<;>exact h.elim
theorem bc.rep {σ:Store} {w:World}:∀{xs ys:List AV},bc xs ys->∀{us:List Value},RepL σ w xs us->RepL σ w ys us
 |[],[],_,us,h=>h
 |x::xs,y::ys,hl,us,h=>by
  simp only[RepL]at*
  obtain⟨u,D,rfl,E,F⟩:=h
  exact⟨u,D,rfl,hl.1.rep E,bc.rep hl.2 F⟩
 |[],_::_,h,_,_=>h.elim
 |_::_,[],h,_,_=>h.elim
theorem AVle.rep {σ:Store} {w:World} {x y:AV} (h:AVle x y) {u:Value} (F:Rep σ w x u):Rep σ w y u:=by
 rcases h with h|h
 ·exact h.rep F
 ·cases x<;>cases y<;>first
   |exact h.elim
   |skip
  ·simp only[Rep]at*
   obtain⟨vs,D,I,E⟩:=F
   exact⟨vs,D,I,bc.rep h E⟩
  ·simp only[Rep]at*
   obtain⟨vs,D,E⟩:=F
   exact⟨vs,D,bc.rep h E⟩
theorem ax.rep {σ:Store} {w:World}:∀{xs ys:List AV},ax xs ys->∀{us:List Value},RepL σ w xs us->RepL σ w ys us
 |[],[],_,us,h=>h
 |x::xs,y::ys,hl,us,h=>by
  simp only[RepL]at*
  obtain⟨u,D,rfl,E,F⟩:=h
  exact⟨u,D,rfl,hl.1.rep E,ax.rep hl.2 F⟩
 |[],_::_,h,_,_=>h.elim
 |_::_,[],h,_,_=>h.elim
/-! ### weaker states -/
def eJ (env:Env):Env->Prop
 |[]=>True
 |(k,x)::e=>AVle (env.get k) x/\eJ env e
theorem eJ.get {env:Env}:∀{D:Env},eJ env D->∀j,D.get j= .any\/AVle (env.get j) (D.get j)
 |[],_,j=>.inl rfl
 |(k,x)::e,h,j=>by
  simp only[Env.get]
  by_cases E:k=j
  ·subst E;rw[if_pos rfl];exact .inr h.1
  ·rw[if_neg E];exact eJ.get h.2 j
def SubN (σ' σ:Store):Prop:=Sub σ' σ/\(σ.keys.Nodup->σ'.keys.Nodup)
theorem SubN.refl (σ:Store):SubN σ σ:=⟨λ_ h=>h,λh=>h⟩
theorem SubN.nil (σ:Store):SubN [] σ:=⟨λ_ h=>by simp at h,λ_=>by simp[Store.keys]⟩
theorem SubN.tail {σ' σ:Store} (h:SubN σ' σ) (p:Nat×AObj):SubN σ' (p::σ):=
 ⟨λq E=>mem_cons_of_mem _ (h.1 q E),λD=>h.2 (by simp only[Store.keys,map_cons,nodup_cons]at D;exact D.2)⟩
theorem SubN.cons {σ' σ:Store} (h:SubN σ' σ) (p:Nat×AObj):SubN (p::σ') (p::σ):=
 ⟨λq E=>by
  rcases mem_cons.1 E with rfl|E
  ·simp
  ·exact mem_cons_of_mem _ (h.1 q E),
  λD=>by
  simp only[Store.keys,map_cons,nodup_cons]at D ⊢
  exact⟨λF=>D.1 (ct h.1 F),h.2 D.2⟩⟩
theorem Sat.subN {G:Glob} {σ σ' ρ:Store} {w:World} (h:Sat G (σ++ρ) w) (E:SubN σ' σ):Sat G (σ'++ρ) w:=by
 have F:=h.nodup
 rw[az]at F
 obtain⟨M,N,O⟩:=nodup_append.1 F
 refine h.sub (λp D=>?_) ?_
 ·rcases mem_append.1 D with D|D
  ·exact mem_append.2 (.inl (E.1 p D))
  ·exact mem_append.2 (.inr D)
 ·rw[az]
  exact nodup_append.2 ⟨E.2 M,N,λa I b J=>O a (ct E.1 I) b J⟩
theorem Weak.of {G:Glob} {env D:Env} {σ σ':Store} (J:eJ env D) (E:SubN σ' σ):Weak G env σ D σ':=by
 intro ρ w tmps I F
 refine⟨I.subN E,Ev.of_sub E.1 w,λj=>?_⟩
 rcases J.get j with h|h
 ·rw[h];simp only[Rep]
 ·exact h.rep (Rep.ev (Ev.of_sub E.1 w) _ _ (F j))
theorem Weak.rfl' {G:Glob} (env:Env) (σ:Store):Weak G env σ env σ:=λ_ w _ E D=>⟨E,Ev.refl σ w,D⟩
theorem Weak.trans {G:Glob} {env D E:Env} {σ F I:Store} (h:Weak G env σ D F) (k:Weak G D F E I):Weak G env σ E I:=by
 intro ρ w tmps Y X
 obtain⟨J,M,N⟩:=h ρ w tmps Y X
 obtain⟨O,T,V⟩:=k ρ w tmps J N
 exact⟨O,M.trans T,V⟩
/-! ### calls -/
theorem ag.v {G:Glob} {P:Program} {k:FuncId} {args:List AV} {σ:Store} {R:AV->Store->Prop} (h:ag G P k args σ R):cd G P (.func (.func k) #[] #[]) args σ R:=
 ⟨k,#[],#[],rfl,by simpa using h⟩
def Pure (G:Glob) (P:Program) (k:FuncId) (args:List AV) (r:AV):Prop:=ag G P k args [] λx σ=>x=r/\σ=[]
def eZ (G:Glob) (P:Program) (f:Value) (args:List AV) (r:AV):Prop:=cd G P f args [] λx σ=>x=r/\σ=[]
theorem Pure.v {G:Glob} {P:Program} {k:FuncId} {args:List AV} {r:AV} (h:Pure G P k args r):eZ G P (.func (.func k) #[] #[]) args r:=ag.v h
theorem aZ {G:Glob} {P:Program} {f:Value} {args:List AV} {σ:Store} {K:AV->Store->Prop} {t:Tag K} {R:AV->Store->Prop} {D:List AV} (σf σr:Store)
  (h:cd G P f D σf R) (I:ax args D) (E:SubN (σf++σr) σ) (J:∀r σ',R r σ'->K r (σ'++σr)):CALL G P f args σ K t:=
 ⟨R,σf,σr,D,.inl h,I,E.1,E.2,λr σ' F _=>J r σ' F⟩
theorem av {G:Glob} {P:Program} {f:Value} {args:List AV} {σ:Store} {K:AV->Store->Prop} {t:Tag K} {R:AV->Store->Prop} {D:List AV} (σf σr:Store)
  (h:cd G P f D σf R) (F:ax args D) (E:SubN (σf++σr) σ) (I:∀r σ',R r σ'->(σ'++σr:Store).keys.Nodup->K r (σ'++σr)):CALL G P f args σ K t:=
 ⟨R,σf,σr,D,.inl h,F,E.1,E.2,I⟩
theorem CALL_x {G:Glob} {P:Program} {f:Value} {args:List AV} {σ:Store} {K:AV->Store->Prop} {t:Tag K} {R:AV->Store->Prop} {D:List AV} (σf σr:Store)
  (h:XSpec G P f D σf R) (I:ax args D) (E:SubN (σf++σr) σ) (J:∀r σ',R r σ'->K r (σ'++σr)):CALL G P f args σ K t:=
 ⟨R,σf,σr,D,.inr h,I,E.1,E.2,λr σ' F _=>J r σ' F⟩
theorem aI {G:Glob} {P:Program} {f:Value} {args:List AV} {σ:Store} {K:AV->Store->Prop} {t:Tag K} {r:AV}
  (h:eZ G P f args r) (D:K r σ):CALL G P f args σ K t:=
 aZ [] σ h (ax.rfl' _) (SubN.refl _) (by rintro _ _ ⟨rfl,rfl⟩;exact D)
theorem aa {G:Glob} {P:Program} {k:FuncId} {args:List AV} {σ:Store} {K:AV->Store->Prop} {t:Tag K} {r:AV}
  (h:Pure G P k args r) (D:K r σ):CALL G P (.func (.func k) #[] #[]) args σ K t:=aI h.v D
theorem aE {G:Glob} {P:Program} {k:FuncId} {args D:List AV} {σ:Store} {K:AV->Store->Prop} {t:Tag K} {r:AV}
  (h:Pure G P k D r) (E:ax args D) (F:K r σ):CALL G P (.func (.func k) #[] #[]) args σ K t:=
 aZ [] σ h.v E (SubN.refl _) (by rintro _ _ ⟨rfl,rfl⟩;exact F)
/-! ### a callee's contract, weakened -/
theorem ag.mono {G:Glob} {P:Program} {k:FuncId} {args:List AV} {σ:Store} {R R':AV->Store->Prop} (h:ag G P k args σ R) (J:∀r σ',R r σ'->R' r σ'):ag G P k args σ R':=
 ⟨h.1,λρ w vs F D=>(h.2 ρ w vs F D).mono λ_ _ ⟨v,r,σ',I,E,rest⟩=>⟨v,r,σ',I,J _ _ E,rest⟩⟩
end Go.Av
