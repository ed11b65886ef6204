/-
  ABSTRACT VALUES, 4: the same as equations, one for each form, for a walk by rewriting. A continuation bears a tag, so that rewriting does not enter it.
-/
import Derived.Test.YtjdccoplpljmlaaGreatDoorVXAv3
namespace Go.Av
open Go Go.RowKit List
set_option linter.unusedSimpArgs false
set_option linter.unusedVariables false
section
structure Tag.{u} {α:Sort u} (a:α):Type where
section
variable {G:Glob} {P:Program} {env:Env} {σ:Store}
def W (G:Glob) (P:Program) (c:SCode) (Q:Exit->Env->Store->Prop) (env:Env) (σ:Store) (_t:Tag Q):Prop:=swp G P c Q env σ
def SR (G:Glob) (P:Program) (ops:List SOper) (env:Env) (σ:Store) (K:Env->Store->Prop) (_t:Tag K):Prop:=srun G P ops env σ K
def TR (G:Glob) (P:Program) (t:DT) (env:Env) (σ:Store) (K:Env->Store->Prop) (_t:Tag K):Prop:=trun G P t env σ K
def QR (G:Glob) (P:Program) (ops:List SOper) (env:Env) (σ:Store) (K:Env->Prop) (_t:Tag K):Prop:=qrun G P ops env σ K
def AO (G:Glob) (P:Program) (E:SOp) (env:Env) (σ:Store) (K:AV->Store->Prop) (_t:Tag K):Prop:=aop G P E env σ K
def AQ (G:Glob) (P:Program) (E:SOp) (env:Env) (σ:Store) (K:AV->Prop) (_t:Tag K):Prop:=aqc G P E env σ K
def NR (K:Env->Store->Prop) (Q:Exit->Env->Store->Prop) (_t:Tag K) (_u:Tag Q):Exit->Env->Store->Prop:=eZ K Q
def BL (i:Nat) (Q:Exit->Env->Store->Prop) (_u:Tag Q):Exit->Env->Store->Prop:=jw i Q
def gd_ (x:AV) (b:Bool) (A B C:Prop) (_a:Tag A) (_b:Tag B) (_c:Tag C):Prop:=gd x b A B C
def i8 (x:AV) (A B:Prop) (_a:Tag A) (_b:Tag B):Prop:=match x with| .bool t=>(t=true->A)/\(t=false->B)|_=>False
def CALL (G:Glob) (P:Program) (f:Value) (args:List AV) (σ:Store) (K:AV->Store->Prop) (_t:Tag K):Prop:=j7 G P f args σ K
def INV (G:Glob) (P:Program) (v:Value) (name:String) (args:List AV) (σ:Store) (K:AV->Store->Prop) (_t:Tag K):Prop:=AInv G P v name args σ K
def RAW (G:Glob) (P:Program) (op:Op) (env:Env) (σ:Store) (K:AV->Store->Prop) (_t:Tag K):Prop:=RawOp G P op env σ K
def QCALL (G:Glob) (P:Program) (f:Value) (args:List AV) (K:AV->Prop) (_t:Tag K):Prop:=AQCall G P f args K
def bi (op:BinOp) (x y:AV) (K:AV->Prop) (_t:Tag K):Prop:=el op x y K
def eM (G:Glob) (env:Env) (n:Nat) (x:AV) (lo hi:Option SOpd) (K:AV->Prop) (_t:Tag K):Prop:=jD G env n x lo hi K
def rowsOf_ (x:AV) (K:Nat->List (List AV)->Prop) (_t:Tag K):Prop:=iY x K
def aT (x:AV) (K:List AV->Prop) (_t:Tag K):Prop:=bQ x K
def fc (agg:Bool) (n:Nat) (cs:List AV) (K:AV->Prop) (_t:Tag K):Prop:=eE agg n cs K
def ff (c x y:AV) (K:AV->Prop) (_t:Tag K):Prop:=iW c x y K
def j0 (x:AV) (K:AV->Prop) (_t:Tag K):Prop:=nilAV x K
def kI (o:Option AObj) (K:TypeId->List AV->Prop) (_t:Tag K):Prop:=gj o K
def kY (σ:Store) (agg:Bool) (n:Nat) (x:AV) (K:AV->Prop) (_t:Tag K):Prop:=lJ σ agg n x K
def ik (n:Nat) (x i:AV) (K:AV->Prop) (_t:Tag K):Prop:=mq n x i K
def refX_ (x:AV) (K:List AV->Prop) (_t:Tag K):Prop:=refX x K
def gC (n:Nat) (x:AV) (K:AV->Prop) (_t:Tag K):Prop:=cP n x K
def iH (x:AV) (K:Int->Prop) (_t:Tag K):Prop:=intX x K
def ic (x:AV) (K:List UInt8->Prop) (_t:Tag K):Prop:=strX x K
def jT (x:AV) (K:List AV->Prop) (_t:Tag K):Prop:=aggX x K
def tupX_ (n:Nat) (x:AV) (K:AV->Prop) (_t:Tag K):Prop:=tupX n x K
def g6 (x:AV) (K:Bool->Prop) (_t:Tag K):Prop:=gE x K
def eqsX_ (b:Bool) (ks:List Nat) (xs ys:List AV) (K:AV->Prop) (_t:Tag K):Prop:=eqsX b ks xs ys K
def dB (kind:Nat) (b:Bool) (x:AV) (K:AV->Prop) (_t:Tag K):Prop:=gU kind b x K
def eqvX_ (b:Bool) (r:Option Bool) (K:AV->Prop) (_t:Tag K):Prop:=match r with|some r=>K (.bool (if b then !r else r))|none=>False
def convX_ (k:IntKind) (x:AV) (K:AV->Prop) (_t:Tag K):Prop:=convX k x K
def kG (x:AV) (K:AV->Prop) (_t:Tag K):Prop:=lenX x K
def scX_ (x:AV) (K:Value->Prop) (_t:Tag K):Prop:=scX x K
def j4 (G:Glob) (env:Env) (xs:List SOpd) (K:List Value->Prop) (_t:Tag K):Prop:=scsX G env xs K
def ownX_ (e:TypeId) (n:Nat) (x:AV) (K:Option Nat->List (List AV)->Prop) (_t:Tag K):Prop:=ownX e n x K
def srcX_ (n:Nat) (x:AV) (K:List (List AV)->Prop) (_t:Tag K):Prop:=srcX n x K
def ptrX_ (x:AV) (K:Nat->Nat->Prop) (_t:Tag K):Prop:=ptrX x K
def newX_ (σ:Store) (K:Nat->Prop) (_t:Tag K):Prop:=newX σ K
def gl (G:Glob) (env:Env) (cs:List AV) (ps:List (Nat×Nat×SOpd)) (K:List AV->Prop) (_t:Tag K):Prop:=fR G env cs ps K
def de (G:Glob) (env:Env) (d:Int) (x:Option SOpd) (K:Int->Prop) (_t:Tag K):Prop:=en G env d x K
variable {Q:Exit->Env->Store->Prop} {K:AV->Store->Prop} {K1:AV->Prop} {KE:Env->Store->Prop} {KQ:Env->Prop}
variable {KL:List AV->Prop} {KI:Int->Prop} {KB:Bool->Prop} {KR:Nat->List (List AV)->Prop} {KS:List UInt8->Prop} {KV:Value->Prop} {KVs:List Value->Prop} {KT:TypeId->List AV->Prop}
variable {KO:Option Nat->List (List AV)->Prop} {KRs:List (List AV)->Prop} {KP:Nat->Nat->Prop} {KN:Nat->Prop}
variable {tQ:Tag Q} {tK:Tag K} {t1:Tag K1} {tE:Tag KE} {tq:Tag KQ} {tL:Tag KL} {tI:Tag KI} {tB:Tag KB} {tR:Tag KR} {tS:Tag KS} {tV:Tag KV} {tVs:Tag KVs} {tT:Tag KT} {tO:Tag KO} {tRs:Tag KRs} {tP:Tag KP} {tN:Tag KN}
theorem oP {A B:Prop} {E:Tag A} {F:Tag B}:i8 (.bool true) A B E F=(A):=by simp[i8]
theorem nz {A B:Prop} {E:Tag A} {F:Tag B}:i8 (.bool false) A B E F=(B):=by simp[i8]
theorem W_skip:W G P .skip Q env σ tQ=(Q .normal env σ):=(rfl)
theorem W_region {ops:List SOper} {ks:List Nat}:W G P (.region ops ks) Q env σ tQ=(SR G P ops env σ (λenv σ=>Q .normal (env.keep ks) σ) ⟨⟩):=(rfl)
theorem W_drawL {ops:List SOper} {ks:List Nat}:W G P (.drawL ops ks) Q env σ tQ=(SR G P ops env σ (λenv σ=>Q .normal (env.keep ks) σ) ⟨⟩):=(rfl)
theorem W_draw {ops:List SOper} {ks:List Nat}:W G P (.draw ops ks) Q env σ tQ=(QR G P ops env σ (λenv=>Q .normal (env.keep ks) σ) ⟨⟩):=(rfl)
theorem W_ghost {ops:List SOper} {ks:List Nat}:W G P (.ghost ops ks) Q env σ tQ=(SR G P ops env σ (λenv σ=>∃E σ',Weak G (env.keep ks) σ E σ'/\Q .normal E σ') ⟨⟩):=(rfl)
theorem W_seq {a b:SCode}:W G P (.seq a b) Q env σ tQ=(W G P a (NR (λenv σ=>W G P b Q env σ ⟨⟩) Q ⟨⟩ ⟨⟩) env σ ⟨⟩):=(rfl)
theorem W_block {i:Nat} {a:SCode}:W G P (.block i a) Q env σ tQ=(W G P a (BL i Q ⟨⟩) env σ ⟨⟩):=(rfl)
theorem W_exit {i:Nat}:W G P (.exit i) Q env σ tQ=(Q (.exit i) env σ):=(rfl)
theorem W_ret:W G P .ret Q env σ tQ=(Q .ret env σ):=(rfl)
theorem W_bad:W G P .bad Q env σ tQ=(False):=(rfl)
theorem AO_raw {op:Op}:AO G P (.raw op) env σ K tK=(RAW G P op env σ K ⟨⟩):=(rfl)
theorem AO_bad:AO G P .bad env σ K tK=(False):=(rfl)
theorem AQ_bad:AQ G P .bad env σ K1 t1=(False):=(rfl)
theorem W_cond {c:SOpd} {a b:SCode}:W G P (.cond c a b) Q env σ tQ=(i8 (c.eval G env) (W G P a Q env σ ⟨⟩) (W G P b Q env σ ⟨⟩) ⟨⟩ ⟨⟩):=(rfl)
theorem NR_normal:NR KE Q tE tQ .normal env σ=(KE env σ):=(rfl)
theorem NR_exit {i:Nat}:NR KE Q tE tQ (.exit i) env σ=(Q (.exit i) env σ):=(rfl)
theorem NR_ret:NR KE Q tE tQ .ret env σ=(Q .ret env σ):=(rfl)
theorem BL_normal {i:Nat}:BL i Q tQ .normal env σ=(Q .normal env σ):=(rfl)
theorem md {i:Nat}:BL i Q tQ (.exit i) env σ=(Q .normal env σ):=by simp[BL,jw]
theorem BL_exit {i j:Nat}:BL i Q tQ (.exit j) env σ=(if j=i then Q .normal env σ else Q (.exit j) env σ):=(rfl)
theorem BL_ret {i:Nat}:BL i Q tQ .ret env σ=(Q .ret env σ):=(rfl)
theorem SR_nil:SR G P [] env σ KE tE=(KE env σ):=(rfl)
theorem SR_none {d:Option Nat} {E:SOp} {rest:List SOper}:SR G P (⟨d,none,E⟩::rest) env σ KE tE=(AO G P E env σ (λr σ'=>SR G P rest (env.put d r) σ' KE ⟨⟩) ⟨⟩):=(rfl)
theorem SR_some {d:Option Nat} {j:Nat} {b:Bool} {E:SOp} {rest:List SOper}:SR G P (⟨d,some (j,b),E⟩::rest) env σ KE tE=(gd_ (env.get j) b (AO G P E (env.set j (.bool b)) σ (λr σ'=>SR G P rest ((env.set j (.bool b)).put d r) σ' KE ⟨⟩) ⟨⟩)
   (SR G P rest ((env.set j (.bool (!b))).put d aE) σ KE ⟨⟩) (SR G P rest (env.put d aE) σ KE ⟨⟩) ⟨⟩ ⟨⟩ ⟨⟩):=(rfl)
theorem QR_nil:QR G P [] env σ KQ tq=(KQ env):=(rfl)
theorem QR_none {d:Option Nat} {E:SOp} {rest:List SOper}:QR G P (⟨d,none,E⟩::rest) env σ KQ tq=(AQ G P E env σ (λr=>QR G P rest (env.put d r) σ KQ ⟨⟩) ⟨⟩):=(rfl)
theorem QR_some {d:Option Nat} {j:Nat} {b:Bool} {E:SOp} {rest:List SOper}:QR G P (⟨d,some (j,b),E⟩::rest) env σ KQ tq=(gd_ (env.get j) b (AQ G P E (env.set j (.bool b)) σ (λr=>QR G P rest ((env.set j (.bool b)).put d r) σ KQ ⟨⟩) ⟨⟩)
   (QR G P rest ((env.set j (.bool (!b))).put d aE) σ KQ ⟨⟩) (QR G P rest (env.put d aE) σ KQ ⟨⟩) ⟨⟩ ⟨⟩ ⟨⟩):=(rfl)
theorem gd_undef {b:Bool} {A B C:Prop} {E:Tag A} {F:Tag B} {I:Tag C}:gd_ aE b A B C E F I=(C):=(rfl)
theorem gd_tt {A B C:Prop} {E:Tag A} {F:Tag B} {I:Tag C}:gd_ (.bool true) true A B C E F I=(A):=by simp[gd_,gd]
theorem gd_tf {A B C:Prop} {E:Tag A} {F:Tag B} {I:Tag C}:gd_ (.bool true) false A B C E F I=(B):=by simp[gd_,gd]
theorem gd_ft {A B C:Prop} {E:Tag A} {F:Tag B} {I:Tag C}:gd_ (.bool false) true A B C E F I=(B):=by simp[gd_,gd]
theorem gd_ff {A B C:Prop} {E:Tag A} {F:Tag B} {I:Tag C}:gd_ (.bool false) false A B C E F I=(A):=by simp[gd_,gd]
theorem put_none {r:AV}:Env.put env none r=(env):=(rfl)
theorem put_some {d:Nat} {r:AV}:Env.put env (some d) r=(env.set d r):=(rfl)
theorem set_nil {d:Nat} {r:AV}:Env.set [] d r=([(d,r)]):=(rfl)
theorem set_cons {k d:Nat} {x r:AV}:Env.set ((k,x)::env) d r=(if k=d then (k,r)::env else (k,x)::Env.set env d r):=(rfl)
theorem get_nil {d:Nat}:Env.get [] d=(.any):=(rfl)
theorem get_cons {k d:Nat} {x:AV}:Env.get ((k,x)::env) d=(if k=d then x else Env.get env d):=(rfl)
theorem keep_nil {ks:List Nat}:Env.keep ks []=([]):=(rfl)
theorem keep_cons {k:Nat} {x:AV} {ks:List Nat}:Env.keep ks ((k,x)::env)=(if ks.contains k then (k,x)::Env.keep ks env else Env.keep ks env):=by simp only[Env.keep,filter_cons]
theorem sget_nil {b:Nat}:Store.get [] b=(none):=(rfl)
theorem lE {k b:Nat} {x:AObj}:Store.get ((k,x)::σ) b=(if k=b then some x else Store.get σ b):=(rfl)
theorem sset_nil {b:Nat} {y:AObj}:Store.set [] b y=([]):=(rfl)
theorem sset_cons {k b:Nat} {x y:AObj}:Store.set ((k,x)::σ) b y=(if k=b then (k,y)::σ else (k,x)::Store.set σ b y):=(rfl)
theorem eval_t {i:Nat}:SOpd.eval G env (.t i)=(env.get i):=(rfl)
theorem eval_c {v:AV}:SOpd.eval G env (.c v)=(v):=(rfl)
theorem eval_f {i:Nat}:SOpd.eval G env (.f i)=(.sc (.func (.func i) #[] #[])):=(rfl)
theorem AO_mov {x:SOpd}:AO G P (.mov x) env σ K tK=((λr=>K r σ) (x.eval G env)):=(rfl)
theorem AQ_mov {x:SOpd}:AQ G P (.mov x) env σ K1 t1=((K1) (x.eval G env)):=(rfl)
theorem AO_pick {c a b:SOpd}:AO G P (.pick c a b) env σ K tK=(ff (c.eval G env) (a.eval G env) (b.eval G env) (λr=>K r σ) ⟨⟩):=(rfl)
theorem AQ_pick {c a b:SOpd}:AQ G P (.pick c a b) env σ K1 t1=(ff (c.eval G env) (a.eval G env) (b.eval G env) (K1) ⟨⟩):=(rfl)
theorem nw {x:SOpd}:AO G P (.nilCheck x) env σ K tK=(j0 (x.eval G env) (λr=>K r σ) ⟨⟩):=(rfl)
theorem mQ {x:SOpd}:AQ G P (.nilCheck x) env σ K1 t1=(j0 (x.eval G env) (K1) ⟨⟩):=(rfl)
theorem AO_load {agg:Bool} {n:Nat} {x:SOpd}:AO G P (.load agg n x) env σ K tK=(kY σ agg n (x.eval G env) (λr=>K r σ) ⟨⟩):=(rfl)
theorem AQ_load {agg:Bool} {n:Nat} {x:SOpd}:AQ G P (.load agg n x) env σ K1 t1=(kY σ agg n (x.eval G env) (K1) ⟨⟩):=(rfl)
theorem AO_build {zero:List AV} {parts:List (Nat×Nat×SOpd)}:AO G P (.build zero parts) env σ K tK=(gl G env zero parts (λcs=>(λr=>K r σ) (.agg cs)) ⟨⟩):=(rfl)
theorem AQ_build {zero:List AV} {parts:List (Nat×Nat×SOpd)}:AQ G P (.build zero parts) env σ K1 t1=(gl G env zero parts (λcs=>(K1) (.agg cs)) ⟨⟩):=(rfl)
theorem AO_fieldA {n:Nat} {x:SOpd}:AO G P (.fieldA n x) env σ K tK=(gC n (x.eval G env) (λr=>K r σ) ⟨⟩):=(rfl)
theorem AQ_fieldA {n:Nat} {x:SOpd}:AQ G P (.fieldA n x) env σ K1 t1=(gC n (x.eval G env) (K1) ⟨⟩):=(rfl)
theorem AO_indexA {n:Nat} {x i:SOpd}:AO G P (.indexA n x i) env σ K tK=(ik n (x.eval G env) (i.eval G env) (λr=>K r σ) ⟨⟩):=(rfl)
theorem AQ_indexA {n:Nat} {x i:SOpd}:AQ G P (.indexA n x i) env σ K1 t1=(ik n (x.eval G env) (i.eval G env) (K1) ⟨⟩):=(rfl)
theorem AO_indexP {m n:Nat} {x i:SOpd}:AO G P (.indexP m n x i) env σ K tK=(iH (i.eval G env) (λk=>0<=k/\k<m/\gC (k.toNat*n) (x.eval G env) (λr=>K r σ) ⟨⟩) ⟨⟩):=(rfl)
theorem AQ_indexP {m n:Nat} {x i:SOpd}:AQ G P (.indexP m n x i) env σ K1 t1=(iH (i.eval G env) (λk=>0<=k/\k<m/\gC (k.toNat*n) (x.eval G env) (K1) ⟨⟩) ⟨⟩):=(rfl)
theorem AO_index {x i:SOpd}:AO G P (.index x i) env σ K tK=(ic (x.eval G env) (λs=>iH (i.eval G env) (λn=>0<=n/\n<s.length/\(λr=>K r σ) (.int .u8 (s.getD n.toNat 0).toNat)) ⟨⟩) ⟨⟩):=(rfl)
theorem AQ_index {x i:SOpd}:AQ G P (.index x i) env σ K1 t1=(ic (x.eval G env) (λs=>iH (i.eval G env) (λn=>0<=n/\n<s.length/\(K1) (.int .u8 (s.getD n.toNat 0).toNat)) ⟨⟩) ⟨⟩):=(rfl)
theorem AO_slice {n:Nat} {x:SOpd} {lo hi:Option SOpd}:AO G P (.slice n x lo hi) env σ K tK=(eM G env n (x.eval G env) lo hi (λr=>K r σ) ⟨⟩):=(rfl)
theorem AQ_slice {n:Nat} {x:SOpd} {lo hi:Option SOpd}:AQ G P (.slice n x lo hi) env σ K1 t1=(eM G env n (x.eval G env) lo hi (K1) ⟨⟩):=(rfl)
theorem AO_sliceS {x:SOpd} {lo hi:Option SOpd}:AO G P (.sliceS x lo hi) env σ K tK=(ic (x.eval G env) (λs=>de G env 0 lo (λl=>de G env s.length hi (λh=>0<=l/\l<=h/\h<=s.length/\(λr=>K r σ) (.str ((s.take h.toNat).drop l.toNat))) ⟨⟩) ⟨⟩) ⟨⟩):=(rfl)
theorem AQ_sliceS {x:SOpd} {lo hi:Option SOpd}:AQ G P (.sliceS x lo hi) env σ K1 t1=(ic (x.eval G env) (λs=>de G env 0 lo (λl=>de G env s.length hi (λh=>0<=l/\l<=h/\h<=s.length/\(K1) (.str ((s.take h.toNat).drop l.toNat))) ⟨⟩) ⟨⟩) ⟨⟩):=(rfl)
theorem AO_field {agg:Bool} {m n:Nat} {x:SOpd}:AO G P (.field agg m n x) env σ K tK=(jT (x.eval G env) (λcs=>fc agg n (cs.drop m) (λr=>K r σ) ⟨⟩) ⟨⟩):=(rfl)
theorem AQ_field {agg:Bool} {m n:Nat} {x:SOpd}:AQ G P (.field agg m n x) env σ K1 t1=(jT (x.eval G env) (λcs=>fc agg n (cs.drop m) (K1) ⟨⟩) ⟨⟩):=(rfl)
theorem oN {n:Nat} {x:SOpd}:AO G P (.extract n x) env σ K tK=(tupX_ n (x.eval G env) (λr=>K r σ) ⟨⟩):=(rfl)
theorem oA {n:Nat} {x:SOpd}:AQ G P (.extract n x) env σ K1 t1=(tupX_ n (x.eval G env) (K1) ⟨⟩):=(rfl)
theorem AO_bin {op:BinOp} {x y:SOpd}:AO G P (.bin op x y) env σ K tK=(bi op (x.eval G env) (y.eval G env) (λr=>K r σ) ⟨⟩):=(rfl)
theorem AQ_bin {op:BinOp} {x y:SOpd}:AQ G P (.bin op x y) env σ K1 t1=(bi op (x.eval G env) (y.eval G env) (K1) ⟨⟩):=(rfl)
theorem AO_eqb {n:Bool} {x y:SOpd}:AO G P (.eqb n x y) env σ K tK=(g6 (x.eval G env) (λa=>g6 (y.eval G env) (λb=>(λr=>K r σ) (.bool (if n then a != b else a==b))) ⟨⟩) ⟨⟩):=(rfl)
theorem AQ_eqb {n:Bool} {x y:SOpd}:AQ G P (.eqb n x y) env σ K1 t1=(g6 (x.eval G env) (λa=>g6 (y.eval G env) (λb=>(K1) (.bool (if n then a != b else a==b))) ⟨⟩) ⟨⟩):=(rfl)
theorem AO_eqs {b:Bool} {ks:List Nat} {x y:SOpd}:AO G P (.eqs b ks x y) env σ K tK=(jT (x.eval G env) (λxs=>jT (y.eval G env) (λys=>eqsX_ b ks xs ys (λr=>K r σ) ⟨⟩) ⟨⟩) ⟨⟩):=(rfl)
theorem AQ_eqs {b:Bool} {ks:List Nat} {x y:SOpd}:AQ G P (.eqs b ks x y) env σ K1 t1=(jT (x.eval G env) (λxs=>jT (y.eval G env) (λys=>eqsX_ b ks xs ys (K1) ⟨⟩) ⟨⟩) ⟨⟩):=(rfl)
theorem AO_eqnil {n:Nat} {b:Bool} {x:SOpd}:AO G P (.eqnil n b x) env σ K tK=(dB n b (x.eval G env) (λr=>K r σ) ⟨⟩):=(rfl)
theorem AQ_eqnil {n:Nat} {b:Bool} {x:SOpd}:AQ G P (.eqnil n b x) env σ K1 t1=(dB n b (x.eval G env) (K1) ⟨⟩):=(rfl)
theorem AO_not {x:SOpd}:AO G P (.not x) env σ K tK=(g6 (x.eval G env) (λb=>(λr=>K r σ) (.bool (!b))) ⟨⟩):=(rfl)
theorem AQ_not {x:SOpd}:AQ G P (.not x) env σ K1 t1=(g6 (x.eval G env) (λb=>(K1) (.bool (!b))) ⟨⟩):=(rfl)
theorem AO_conv {k:IntKind} {x:SOpd}:AO G P (.conv k x) env σ K tK=(convX_ k (x.eval G env) (λr=>K r σ) ⟨⟩):=(rfl)
theorem AQ_conv {k:IntKind} {x:SOpd}:AQ G P (.conv k x) env σ K1 t1=(convX_ k (x.eval G env) (K1) ⟨⟩):=(rfl)
theorem AO_str {x:SOpd}:AO G P (.str x) env σ K tK=(ic (x.eval G env) (λs=>(λr=>K r σ) (.str s)) ⟨⟩):=(rfl)
theorem AQ_str {x:SOpd}:AQ G P (.str x) env σ K1 t1=(ic (x.eval G env) (λs=>(K1) (.str s)) ⟨⟩):=(rfl)
theorem AO_len {x:SOpd}:AO G P (.len x) env σ K tK=(kG (x.eval G env) (λr=>K r σ) ⟨⟩):=(rfl)
theorem AQ_len {x:SOpd}:AQ G P (.len x) env σ K1 t1=(kG (x.eval G env) (K1) ⟨⟩):=(rfl)
theorem AO_lenS {x:SOpd}:AO G P (.lenS x) env σ K tK=(ic (x.eval G env) (λs=>(λr=>K r σ) (.int .i64 s.length)) ⟨⟩):=(rfl)
theorem AQ_lenS {x:SOpd}:AQ G P (.lenS x) env σ K1 t1=(ic (x.eval G env) (λs=>(K1) (.int .i64 s.length)) ⟨⟩):=(rfl)
theorem AO_mkfun {f:Fn} {a b:List SOpd}:AO G P (.mkfun f a b) env σ K tK=(j4 G env a (λvs=>j4 G env b (λus=>(λr=>K r σ) (.sc (.func f vs.toArray us.toArray))) ⟨⟩) ⟨⟩):=(rfl)
theorem AQ_mkfun {f:Fn} {a b:List SOpd}:AQ G P (.mkfun f a b) env σ K1 t1=(j4 G env a (λvs=>j4 G env b (λus=>(K1) (.sc (.func f vs.toArray us.toArray))) ⟨⟩) ⟨⟩):=(rfl)
theorem AO_alloc {e:TypeId} {zero:List AV}:AO G P (.alloc e zero) env σ K tK=(newX_ σ (λb=>K (.sc (.pointer (some ⟨b,0,none⟩))) ((b,.cells e zero)::σ)) ⟨⟩):=(rfl)
theorem AO_box {e:TypeId} {n:Nat} {x:SOpd}:AO G P (.box e n x) env σ K tK=(aT (x.eval G env) (λc=>c.length=n/\newX_ σ (λb=>K (.sc (.pointer (some ⟨b,0,none⟩))) ((b,.cells e c)::σ)) ⟨⟩) ⟨⟩):=(rfl)
theorem AO_boxR {n:Nat} {x:SOpd}:AO G P (.boxR n x) env σ K tK=(aT (x.eval G env) (λc=>c.length=n/\K (.ref c) σ) ⟨⟩):=(rfl)
theorem AO_loadF {agg:Bool} {n:Nat} {x:SOpd}:AO G P (.loadF agg n x) env σ K tK=(refX_ (x.eval G env) (λcs=>fc agg n cs (λr=>K r σ) ⟨⟩) ⟨⟩):=(rfl)
theorem refX_ref {cs:List AV}:refX_ (.ref cs) KL tL=(KL cs):=(rfl)
theorem W_drawT {t:DT} {ks:List Nat}:W G P (.drawT t ks) Q env σ tQ=(TR G P t env σ (λenv σ=>∃E σ',Weak G (env.keep ks) σ E σ'/\Q .normal E σ') ⟨⟩):=(rfl)
theorem TR_done:TR G P .done env σ KE tE=(KE env σ):=(rfl)
theorem TR_none {d:Option Nat} {E:SOp} {t:DT}:TR G P (.step ⟨d,none,E⟩ t) env σ KE tE=(AO G P E env σ (λr σ'=>TR G P t (env.put d r) σ' KE ⟨⟩) ⟨⟩):=(rfl)
theorem TR_some {d:Option Nat} {j:Nat} {b:Bool} {E:SOp} {t:DT}:TR G P (.step ⟨d,some (j,b),E⟩ t) env σ KE tE=(gd_ (env.get j) b (AO G P E (env.set j (.bool b)) σ (λr σ'=>TR G P t ((env.set j (.bool b)).put d r) σ' KE ⟨⟩) ⟨⟩)
   (TR G P t ((env.set j (.bool (!b))).put d aE) σ KE ⟨⟩) (TR G P t (env.put d aE) σ KE ⟨⟩) ⟨⟩ ⟨⟩ ⟨⟩):=(rfl)
theorem AO_buildS {e:TypeId} {sz len:Nat} {zero:List AV} {parts:List (Nat×SOpd)}:AO G P (.buildS e sz len zero parts) env σ K tK=(gl G env zero (parts.map λp=>(p.1*sz,sz,p.2)) (λcs=>
   newX_ σ (λb=>∃rows:List (List AV),rows.length=len/\(∀r∈rows,r.length=sz)/\rows.flatten=cs/\K (.own (some b) e sz rows) ((b,.tok e (len*sz))::σ)) ⟨⟩) ⟨⟩):=(rfl)
theorem AO_store {n:Nat} {x y:SOpd}:AO G P (.store n x y) env σ K tK=(ptrX_ (x.eval G env) (λb o=>kI (σ.get b) (λe cs=>aT (y.eval G env) (λc=>
   c.length=n/\o+n<=cs.length/\K aE (σ.set b (.cells e (splice cs o c)))) ⟨⟩) ⟨⟩) ⟨⟩):=(rfl)
theorem AO_append {e:TypeId} {sz bytes:Nat} {x y:SOpd}:AO G P (.append e sz bytes x y) env σ K tK=(ownX_ e sz (x.eval G env) (λg rows=>srcX_ sz (y.eval G env) (λys=>appX e sz bytes σ g rows ys K) ⟨⟩) ⟨⟩):=(rfl)
theorem AO_call {f:SOpd} {args:List SOpd}:AO G P (.call f args) env σ K tK=(scX_ (f.eval G env) (λv=>CALL G P v (args.map (·.eval G env)) σ K ⟨⟩) ⟨⟩):=(rfl)
theorem AO_invoke {x:SOpd} {name:String} {args:List SOpd}:AO G P (.invoke x name args) env σ K tK=(scX_ (x.eval G env) (λv=>INV G P v name (args.map (·.eval G env)) σ K ⟨⟩) ⟨⟩):=(rfl)
theorem AO_mkI {t:TypeId} {x:SOpd}:AO G P (.mkI t x) env σ K tK=(scX_ (x.eval G env) (λv=>K (.sc (.iface t v)) σ) ⟨⟩):=(rfl)
theorem AQ_mkI {t:TypeId} {x:SOpd}:AQ G P (.mkI t x) env σ K1 t1=(scX_ (x.eval G env) (λv=>K1 (.sc (.iface t v))) ⟨⟩):=(rfl)
theorem AQ_call {f:SOpd} {args:List SOpd}:AQ G P (.call f args) env σ K1 t1=(scX_ (f.eval G env) (λv=>QCALL G P v (args.map (·.eval G env)) K1 ⟨⟩) ⟨⟩):=(rfl)
theorem nl {x y:AV}:ff (.bool true) x y K1 t1=(K1 x):=by simp[ff,iW]
theorem mz {x y:AV}:ff (.bool false) x y K1 t1=(K1 y):=by simp[ff,iW]
theorem nilAV_ref {cs:List AV}:j0 (.ref cs) K1 t1=(K1 (.ref cs)):=(rfl)
theorem nilAV_ptr {a:Addr}:j0 (.sc (.pointer (some a))) K1 t1=(K1 (.sc (.pointer (some a)))):=(rfl)
theorem nilAV_fun {k:Nat} {fs cs:Array Value}:j0 (.sc (.func (.func k) fs cs)) K1 t1=(K1 (.sc (.func (.func k) fs cs))):=(rfl)
theorem mP {e:TypeId} {cs:List AV}:kI (some (.cells e cs)) KT tT=(KT e cs):=(rfl)
theorem loadX_ref {agg:Bool} {n:Nat} {cs:List AV}:kY σ agg n (.ref cs) K1 t1=(fc agg n cs K1 ⟨⟩):=(rfl)
theorem loadX_ptr {agg:Bool} {n b o:Nat}:kY σ agg n (.sc (.pointer (some ⟨b,o,none⟩))) K1 t1=(kI (σ.get b) (λ_ cs=>fc agg n (cs.drop o) K1 ⟨⟩) ⟨⟩):=(rfl)
theorem oh {n:Nat} {cs:List AV}:fc true n cs K1 t1=(n<=cs.length/\K1 (.agg (cs.take n))):=(rfl)
theorem oX {n:Nat} {cs:List AV}:fc false n cs K1 t1=(n<=cs.length/\K1 (cs.headD .any)):=(rfl)
theorem oU {n:Nat} {cs:List AV}:gC n (.ref cs) K1 t1=(K1 (.ref (cs.drop n))):=(rfl)
theorem oT {n b o:Nat}:gC n (.sc (.pointer (some ⟨b,o,none⟩))) K1 t1=(K1 (.sc (.pointer (some ⟨b,o+n,none⟩)))):=(rfl)
theorem ox {n m:Nat} {rows:List (List AV)} {i:AV}:ik n (.lst m rows) i K1 t1=(n=m/\iH i (λm=>0<=m/\m<rows.length/\K1 (.ref (rows.getD m.toNat []))) ⟨⟩):=(rfl)
theorem oZ {n m e:Nat} {g:Option Nat} {rows:List (List AV)} {i:AV}:ik n (.own g e m rows) i K1 t1=(n=m/\iH i (λm=>0<=m/\m<rows.length/\K1 (.ref (rows.getD m.toNat []))) ⟨⟩):=(rfl)
theorem oz {n b o l c:Nat} {i:AV}:ik n (.sc (.slice (some ⟨b,o,none⟩) l c)) i K1 t1=(iH i (λm=>0<=m/\m<l/\K1 (.sc (.pointer (some ⟨b,o+m.toNat*n,none⟩)))) ⟨⟩):=(rfl)
theorem intX_int {k:IntKind} {n:Int}:iH (.int k n) KI tI=(KI n):=(rfl)
theorem oj {n:Nat} {rows:List (List AV)}:rowsOf_ (.lst n rows) KR tR=(KR n rows):=(rfl)
theorem o0 {g:Option Nat} {e n:Nat} {rows:List (List AV)}:rowsOf_ (.own g e n rows) KR tR=(KR n rows):=(rfl)
theorem strX_str {s:List UInt8}:ic (.str s) KS tS=(KS s):=(rfl)
theorem aggX_agg {cs:List AV}:jT (.agg cs) KL tL=(KL cs):=(rfl)
theorem tupX_tup {n:Nat} {cs:List AV}:tupX_ n (.tup cs) K1 t1=(n<cs.length/\K1 (cs.getD n .any)):=(rfl)
theorem oL {b:Bool}:g6 (.bool b) KB tB=(KB b):=(rfl)
theorem eqnil_nil {b:Bool}:dB 0 b .nil K1 t1=(K1 (.bool (!b))):=(rfl)
theorem eqnil_lst {b:Bool} {n:Nat} {rows:List (List AV)}:dB 0 b (.lst n rows) K1 t1=(∀c,(rows≠[]->c=b)->K1 (.bool c)):=(rfl)
theorem eqnil_own {b:Bool} {g:Option Nat} {e n:Nat} {rows:List (List AV)}:dB 0 b (.own g e n rows) K1 t1=(K1 (.bool (if b then g.isSome else g.isNone))):=(rfl)
theorem eqnil_map {b:Bool} {r:Option Nat}:dB 1 b (.sc (.map r)) K1 t1=(K1 (.bool (if b then r.isSome else r.isNone))):=(rfl)
theorem eqnil_fun {b:Bool} {f:Fn} {x y:Array Value}:dB 2 b (.sc (.func f x y)) K1 t1=(K1 (.bool b)):=(rfl)
theorem nR {b:Bool}:dB 2 b (.sc .nilFunc) K1 t1=(K1 (.bool (!b))):=(rfl)
theorem eqnil_ptr {b:Bool} {r:Option Addr}:dB 3 b (.sc (.pointer r)) K1 t1=(K1 (.bool (if b then r.isSome else r.isNone))):=(rfl)
theorem eqnil_ref {b:Bool} {cs:List AV}:dB 3 b (.ref cs) K1 t1=(K1 (.bool b)):=(rfl)
theorem eqsX_some {b:Bool} {ks:List Nat} {xs ys:List AV}:eqsX_ b ks xs ys K1 t1=(eqvX_ b (eqAV ks xs ys) K1 ⟨⟩):=rfl
theorem eqvX_some {b r:Bool}:eqvX_ b (some r) K1 t1=(K1 (.bool (if b then !r else r))):=(rfl)
theorem eqAV_nil:eqAV [] [] []=(some true):=(rfl)
theorem eqAV_0 {ks:List Nat} {a b:Bool} {xs ys:List AV}:eqAV (0::ks) (.bool a::xs) (.bool b::ys)=((eqAV ks xs ys).map ((a==b)&& ·)):=(rfl)
theorem eqAV_1 {ks:List Nat} {k:IntKind} {a b:Int} {xs ys:List AV}:eqAV (1::ks) (.int k a::xs) (.int k b::ys)=((eqAV ks xs ys).map (decide (a=b)&& ·)):=by simp[eqAV]
theorem eqAV_2 {ks:List Nat} {a b:List UInt8} {xs ys:List AV}:eqAV (2::ks) (.str a::xs) (.str b::ys)=((eqAV ks xs ys).map (decide (a=b)&& ·)):=(rfl)
theorem conv_int {k j:IntKind} {n:Int}:convX_ k (.int j n) K1 t1=(K1 (.int k (k.wrap n))):=(rfl)
theorem len_lst {n:Nat} {rows:List (List AV)}:kG (.lst n rows) K1 t1=(K1 (.int .i64 rows.length)):=(rfl)
theorem len_own {g:Option Nat} {e n:Nat} {rows:List (List AV)}:kG (.own g e n rows) K1 t1=(K1 (.int .i64 rows.length)):=(rfl)
theorem len_nil:kG .nil K1 t1=(K1 (.int .i64 0)):=(rfl)
theorem len_sc {r:Option Addr} {n c:Nat}:kG (.sc (.slice r n c)) K1 t1=(K1 (.int .i64 n)):=(rfl)
theorem scX_sc {v:Value}:scX_ (.sc v) KV tV=(KV v):=(rfl)
theorem scsX_nil:j4 G env [] KVs tVs=(KVs []):=(rfl)
theorem scsX_cons {x:SOpd} {xs:List SOpd}:j4 G env (x::xs) KVs tVs=(scX_ (x.eval G env) (λv=>j4 G env xs (λvs=>KVs (v::vs)) ⟨⟩) ⟨⟩):=(rfl)
theorem ownX_nil {e n:Nat}:ownX_ e n .nil KO tO=(KO none []):=(rfl)
theorem ownX_own {e n E F:Nat} {g:Option Nat} {rows:List (List AV)}:ownX_ e n (.own g E F rows) KO tO=(E=e/\F=n/\KO g rows):=(rfl)
theorem srcX_nil {n:Nat}:srcX_ n .nil KRs tRs=(KRs []):=(rfl)
theorem srcX_lst {n m:Nat} {rows:List (List AV)}:srcX_ n (.lst m rows) KRs tRs=(m=n/\KRs rows):=(rfl)
theorem srcX_own {n m e:Nat} {g:Option Nat} {rows:List (List AV)}:srcX_ n (.own g e m rows) KRs tRs=(m=n/\KRs rows):=(rfl)
theorem ptrX_ptr {b o:Nat}:ptrX_ (.sc (.pointer (some ⟨b,o,none⟩))) KP tP=(KP b o):=(rfl)
theorem newX_eq:newX_ σ KN tN=(∀b,b∉σ.keys->KN b):=(rfl)
theorem oV {b:Bool}:aT (.bool b) KL tL=(KL [.bool b]):=(rfl)
theorem cells_int {k:IntKind} {n:Int}:aT (.int k n) KL tL=(KL [.int k n]):=(rfl)
theorem cells_str {s:List UInt8}:aT (.str s) KL tL=(KL [.str s]):=(rfl)
theorem cells_nil:aT (.nil) KL tL=(KL [.nil]):=(rfl)
theorem cells_lst {m:Nat} {rows:List (List AV)}:aT (.lst m rows) KL tL=(KL [.lst m rows]):=(rfl)
theorem cells_own {g:Option Nat} {e m:Nat} {rows:List (List AV)}:aT (.own g e m rows) KL tL=(KL [.own g e m rows]):=(rfl)
theorem cells_ref {cs:List AV}:aT (.ref cs) KL tL=(KL [.ref cs]):=(rfl)
theorem cells_agg {cs:List AV}:aT (.agg cs) KL tL=(KL cs):=(rfl)
theorem cells_fun {f:Fn} {x y:Array Value}:aT (.sc (.func f x y)) KL tL=(KL [.sc (.func f x y)]):=(rfl)
theorem nY:aT (.sc .nilFunc) KL tL=(KL [.sc .nilFunc]):=(rfl)
theorem cells_ptr {r:Option Addr}:aT (.sc (.pointer r)) KL tL=(KL [.sc (.pointer r)]):=(rfl)
theorem cells_map {r:Option Nat}:aT (.sc (.map r)) KL tL=(KL [.sc (.map r)]):=(rfl)
theorem nn {r:Option Addr} {n c:Nat}:aT (.sc (.slice r n c)) KL tL=(KL [.sc (.slice r n c)]):=(rfl)
theorem fill_nil {cs:List AV}:gl G env cs [] KL tL=(KL cs):=(rfl)
theorem fill_cons {cs:List AV} {o n:Nat} {x:SOpd} {ps:List (Nat×Nat×SOpd)}:gl G env cs ((o,n,x)::ps) KL tL=(aT (x.eval G env) (λc=>c.length=n/\o+n<=cs.length/\gl G env (splice cs o c) ps KL ⟨⟩) ⟨⟩):=(rfl)
theorem m6 {l c:List AV}:splice l 0 c=(c++l.drop c.length):=by cases l<;>rfl
theorem nZ {x:AV} {l c:List AV} {n:Nat}:splice (x::l) (n+1) c=(x::splice l n c):=(rfl)
theorem bin_eql {k:IntKind} {a b:Int}:bi .eql (.int k a) (.int k b) K1 t1=(K1 (.bool (decide (a=b)))):=by simp[bi,el]
theorem bin_neq {k:IntKind} {a b:Int}:bi .neq (.int k a) (.int k b) K1 t1=(K1 (.bool (decide (a≠b)))):=by simp[bi,el]
theorem bin_lss {k:IntKind} {a b:Int}:bi .lss (.int k a) (.int k b) K1 t1=(K1 (.bool (decide (a<b)))):=by simp[bi,el]
theorem bin_leq {k:IntKind} {a b:Int}:bi .leq (.int k a) (.int k b) K1 t1=(K1 (.bool (decide (a<=b)))):=by simp[bi,el]
theorem bin_gtr {k:IntKind} {a b:Int}:bi .gtr (.int k a) (.int k b) K1 t1=(K1 (.bool (decide (b<a)))):=by simp[bi,el]
theorem bin_geq {k:IntKind} {a b:Int}:bi .geq (.int k a) (.int k b) K1 t1=(K1 (.bool (decide (b<=a)))):=by simp[bi,el]
theorem bin_add {k:IntKind} {a b:Int}:bi .add (.int k a) (.int k b) K1 t1=(K1 (.int k (k.wrap (a+b)))):=by simp[bi,el]
theorem bin_sub {k:IntKind} {a b:Int}:bi .sub (.int k a) (.int k b) K1 t1=(K1 (.int k (k.wrap (a-b)))):=by simp[bi,el]
theorem bin_mul {k:IntKind} {a b:Int}:bi .mul (.int k a) (.int k b) K1 t1=(K1 (.int k (k.wrap (a*b)))):=by simp[bi,el]
theorem bin_quo {k:IntKind} {a b:Int}:bi .quo (.int k a) (.int k b) K1 t1=(b≠0/\K1 (.int k (k.wrap (a.tdiv b)))):=by simp[bi,el]
theorem bin_rem {k:IntKind} {a b:Int}:bi .rem (.int k a) (.int k b) K1 t1=(b≠0/\K1 (.int k (a.tmod b))):=by simp[bi,el]
theorem bin_adds {a b:List UInt8}:bi .add (.str a) (.str b) K1 t1=(a.length+b.length<9223372036854775808/\K1 (.str (a++b))):=(rfl)
theorem bin_eqls {a b:List UInt8}:bi .eql (.str a) (.str b) K1 t1=(K1 (.bool (decide (a=b)))):=(rfl)
theorem bin_neqs {a b:List UInt8}:bi .neq (.str a) (.str b) K1 t1=(K1 (.bool (decide (a≠b)))):=(rfl)
theorem bin_lsss {a b:List UInt8}:bi .lss (.str a) (.str b) K1 t1=(K1 (.bool (Op.bytesLess a b))):=(rfl)
theorem bin_gtrs {a b:List UInt8}:bi .gtr (.str a) (.str b) K1 t1=(K1 (.bool (!(Op.bytesLess a b||decide (a=b))))):=(rfl)
theorem slice_lst {n m:Nat} {rows:List (List AV)} {lo hi:Option SOpd}:eM G env n (.lst m rows) lo hi K1 t1=(de G env 0 lo (λl=>de G env rows.length hi (λh=>n=m/\0<=l/\l<=h/\h<=rows.length/\K1 (.lst n ((rows.take h.toNat).drop l.toNat))) ⟨⟩) ⟨⟩):=(rfl)
theorem slice_own {n m e:Nat} {g:Option Nat} {rows:List (List AV)} {lo hi:Option SOpd}:eM G env n (.own g e m rows) lo hi K1 t1=(de G env 0 lo (λl=>de G env rows.length hi (λh=>n=m/\0<=l/\l<=h/\h<=rows.length/\K1 (.lst n ((rows.take h.toNat).drop l.toNat))) ⟨⟩) ⟨⟩):=(rfl)
theorem slice_raw {n b o k c:Nat} {lo hi:Option SOpd}:eM G env n (.sc (.slice (some ⟨b,o,none⟩) k c)) lo hi K1 t1=(de G env 0 lo (λl=>de G env k hi (λh=>0<=l/\l<=h/\h<=k/\k<=c/\l<c/\K1 (.sc (.slice (some ⟨b,o+l.toNat*n,none⟩) (h.toNat-l.toNat) (c-l.toNat)))) ⟨⟩) ⟨⟩):=(rfl)
theorem slice_nil {n:Nat} {lo hi:Option SOpd}:eM G env n .nil lo hi K1 t1=(de G env 0 lo (λl=>de G env 0 hi (λh=>l=0/\h=0/\K1 .nil) ⟨⟩) ⟨⟩):=(rfl)
theorem oM {d:Int}:de G env d none KI tI=(KI d):=(rfl)
theorem om {d:Int} {x:SOpd}:de G env d (some x) KI tI=(iH (x.eval G env) KI ⟨⟩):=(rfl)
end
theorem bv {G:Glob} {P:Program} {a:SCode} {Q:Exit->Env->Store->Prop} {tQ:Tag Q} {env:Env} {σ:Store} {ι:Type} (ok:ι->Prop) (J:ι->Nat) (st:ι->Env) (I:ι->Store)
  (N:ι) (Z:ok N) (T:Weak G env σ (st N) (I N))
  (O:∀i,ok i->W G P a (NR (λE σ'=>∃j,ok j/\J j<J i/\Weak G E σ' (st j) (I j)) Q ⟨⟩ ⟨⟩) (st i) (I i) ⟨⟩):W G P (.loop a) Q env σ tQ:=by
 refine⟨λn e s=>∃i,ok i/\J i=n/\e=st i/\s=I i,J N,st N,I N,⟨N,Z,rfl,rfl,rfl⟩,T,?_⟩
 rintro n e s ⟨i,hi,rfl,rfl,rfl⟩
 have:=O i hi
 have Y:(eZ (λE σ'=>∃m F M,m<J i/\(∃j,ok j/\J j=m/\F=st j/\M=I j)/\Weak G E σ' F M) Q)
   =(eZ (λE σ'=>∃j,ok j/\J j<J i/\Weak G E σ' (st j) (I j)) Q):=by
  congr 1
  funext E σ'
  apply propext
  constructor
  ·rintro⟨m,e,s,X,⟨j,V,rfl,rfl,rfl⟩,T⟩;exact⟨j,V,X,T⟩
  ·rintro⟨j,V,X,T⟩;exact⟨_,_,_,X,⟨j,V,rfl,rfl,rfl⟩,T⟩
 show swp G P a _ (st i) (I i)
 rw[Y]
 exact this
theorem ab {x:Bool} {A B:Prop} {I:Tag A} {J:Tag B} (E:x=true->A) (F:x=false->B):i8 (.bool x) A B I J:=⟨E,F⟩
theorem ai {x b:Bool} {A B C:Prop} {I:Tag A} {J:Tag B} {M:Tag C} (E:x=b->A) (F:x= !b->B):gd_ (.bool x) b A B C I J M:=⟨E,F⟩
theorem ak {t:Bool} {x y:AV} {K1:AV->Prop} {t1:Tag K1} (E:t=true->K1 x) (F:t=false->K1 y):ff (.bool t) x y K1 t1:=⟨E,F⟩
set_option linter.defProp false
def EV1:=(AI (AI (AI (AI (AI @oP (AI @nz @W_skip)) (AI @W_region (AI @W_drawL @W_draw))) (AI (AI @W_ghost (AI @W_seq @W_block)) (AI @W_exit (AI @W_ret @W_bad)))) (AI (AI (AI @AO_raw (AI @AO_bad @AQ_bad)) (AI @W_cond (AI @NR_normal @NR_exit))) (AI (AI @NR_ret (AI @BL_normal @md)) (AI @BL_exit (AI @BL_ret @SR_nil))))) (AI (AI (AI (AI @SR_none (AI @SR_some @QR_nil)) (AI @QR_none (AI @QR_some @gd_undef))) (AI (AI @gd_tt (AI @gd_tf @gd_ft)) (AI @gd_ff (AI @put_none @put_some)))) (AI (AI (AI @set_nil (AI @set_cons @get_nil)) (AI @get_cons (AI @keep_nil @keep_cons))) (AI (AI @sget_nil (AI @lE @sset_nil)) (AI (AI @sset_cons @eval_t) (AI @eval_c @eval_f))))))
def EV2:=(AI (AI (AI (AI (AI @AO_mov (AI @AQ_mov @AO_pick)) (AI @AQ_pick (AI @nw @mQ))) (AI (AI @AO_load (AI @AQ_load @AO_build)) (AI @AQ_build (AI @AO_fieldA @AQ_fieldA)))) (AI (AI (AI @AO_indexA (AI @AQ_indexA @AO_indexP)) (AI @AQ_indexP (AI @AO_index @AQ_index))) (AI (AI @AO_slice (AI @AQ_slice @AO_sliceS)) (AI @AQ_sliceS (AI @AO_field @AQ_field))))) (AI (AI (AI (AI @oN (AI @oA @AO_bin)) (AI @AQ_bin (AI @AO_eqb @AQ_eqb))) (AI (AI @AO_eqs (AI @AQ_eqs @AO_eqnil)) (AI @AQ_eqnil (AI @AO_not @AQ_not)))) (AI (AI (AI @AO_conv (AI @AQ_conv @AO_str)) (AI @AQ_str (AI @AO_len @AQ_len))) (AI (AI @AO_lenS (AI @AQ_lenS @AO_mkfun)) (AI (AI @AQ_mkfun @AO_alloc) (AI (AI (AI (AI (AI @W_drawT @TR_done) (AI @TR_none @TR_some)) (AI @AO_loadF @refX_ref)) (AI @AO_box @AO_boxR)) @AO_buildS))))))
def EV3:=(AI (AI (AI (AI (AI @AO_store (AI @AO_append @AO_call)) (AI @AO_invoke (AI @AO_mkI @AQ_mkI))) (AI (AI @AQ_call (AI @nl @mz)) (AI @nilAV_ref (AI @nilAV_ptr @nilAV_fun)))) (AI (AI (AI @mP (AI @loadX_ref @loadX_ptr)) (AI @oh (AI @oX @oU))) (AI (AI @oT (AI @ox @oZ)) (AI @oz (AI @intX_int @oj))))) (AI (AI (AI (AI @o0 (AI @strX_str @aggX_agg)) (AI @tupX_tup (AI @oL @eqnil_nil))) (AI (AI @eqnil_lst (AI @eqnil_own @eqnil_map)) (AI @eqnil_fun (AI @nR @eqnil_ptr)))) (AI (AI (AI @eqnil_ref (AI @eqsX_some @eqvX_some)) (AI @eqAV_nil (AI @eqAV_0 @eqAV_1))) (AI (AI @eqAV_2 (AI @conv_int @len_lst)) (AI (AI @len_own @len_nil) (AI @scX_sc @scsX_nil))))))
def EV4:=(AI (AI (AI (AI (AI @scsX_cons @ownX_nil) (AI @ownX_own (AI @srcX_nil @srcX_lst))) (AI (AI @srcX_own (AI @ptrX_ptr @newX_eq)) (AI @oV (AI @cells_int @cells_str)))) (AI (AI (AI @cells_nil (AI @cells_lst @cells_own)) (AI @cells_ref (AI @cells_agg @cells_fun))) (AI (AI @nY (AI @cells_ptr @cells_map)) (AI @fill_nil (AI @fill_cons @m6))))) (AI (AI (AI (AI @nZ @bin_eql) (AI @bin_neq (AI @bin_lss @bin_leq))) (AI (AI @bin_gtr (AI @bin_geq @bin_add)) (AI @bin_sub (AI @bin_mul @bin_quo)))) (AI (AI (AI @bin_rem (AI @bin_adds @bin_eqls)) (AI @bin_neqs (AI @bin_lsss @bin_gtrs))) (AI (AI @slice_lst (AI @slice_own @slice_raw)) (AI @slice_nil (AI @oM (AI @om (AI @len_sc @nn))))))))
end
end Go.Av
