/-
  ABSTRACT VALUES, 4: the same as equations, one for each form, for a walk by rewriting. A continuation bears a tag, so that rewriting does not enter it.
-/
import Derived.Test.YtepngejmjdgccaaGreatDoorXAv3
namespace Go.Av
open Go Go.RowKit
set_option linter.unusedSimpArgs false
set_option linter.unusedVariables false
section
structure Tag.{u} {α:Sort u} (a:α):Type where
section
variable {G:Glob} {P:Program} {env:Env} {σ:Store}
def W (G:Glob) (P:Program) (c:SCode) (Q:Exit->Env->Store->Prop) (env:Env) (σ:Store) (_t:Tag Q):Prop:=swp G P c Q env σ
def SR (G:Glob) (P:Program) (ops:List SOper) (env:Env) (σ:Store) (K:Env->Store->Prop) (_t:Tag K):Prop:=srun G P ops env σ K
def TR (G:Glob) (P:Program) (t:DT) (env:Env) (σ:Store) (K:Env->Store->Prop) (_t:Tag K):Prop:=trun G P t env σ K
def QR (G:Glob) (P:Program) (ops:List SOper) (env:Env) (σ:Store) (K:Env->Prop) (_t:Tag K):Prop:=qrun G P ops env σ K
def AO (G:Glob) (P:Program) (so:SOp) (env:Env) (σ:Store) (K:AV->Store->Prop) (_t:Tag K):Prop:=aop G P so env σ K
def AQ (G:Glob) (P:Program) (so:SOp) (env:Env) (σ:Store) (K:AV->Prop) (_t:Tag K):Prop:=aqc G P so env σ K
def NR (K:Env->Store->Prop) (Q:Exit->Env->Store->Prop) (_t:Tag K) (_u:Tag Q):Exit->Env->Store->Prop:=onNormal K Q
def BL (i:Nat) (Q:Exit->Env->Store->Prop) (_u:Tag Q):Exit->Env->Store->Prop:=onBlock i Q
def gd_ (x:AV) (b:Bool) (A B C:Prop) (_a:Tag A) (_b:Tag B) (_c:Tag C):Prop:=gd x b A B C
def split_ (x:AV) (A B:Prop) (_a:Tag A) (_b:Tag B):Prop:=match x with| .bool t=>(t=true->A)/\(t=false->B)|_=>False
def CALL (G:Glob) (P:Program) (f:Value) (args:List AV) (σ:Store) (K:AV->Store->Prop) (_t:Tag K):Prop:=ACall G P f args σ K
def INV (G:Glob) (P:Program) (v:Value) (name:String) (args:List AV) (σ:Store) (K:AV->Store->Prop) (_t:Tag K):Prop:=AInv G P v name args σ K
def RAW (G:Glob) (P:Program) (op:Op) (env:Env) (σ:Store) (K:AV->Store->Prop) (_t:Tag K):Prop:=RawOp G P op env σ K
def QCALL (G:Glob) (P:Program) (f:Value) (args:List AV) (K:AV->Prop) (_t:Tag K):Prop:=AQCall G P f args K
def binAV_ (op:BinOp) (x y:AV) (K:AV->Prop) (_t:Tag K):Prop:=binAV op x y K
def sliceAV_ (G:Glob) (env:Env) (n:Nat) (x:AV) (lo hi:Option SOpd) (K:AV->Prop) (_t:Tag K):Prop:=sliceAV G env n x lo hi K
def rowsOf_ (x:AV) (K:Nat->List (List AV)->Prop) (_t:Tag K):Prop:=rowsOf x K
def withCells_ (x:AV) (K:List AV->Prop) (_t:Tag K):Prop:=withCells x K
def loadAV_ (agg:Bool) (n:Nat) (cs:List AV) (K:AV->Prop) (_t:Tag K):Prop:=loadAV agg n cs K
def pickAV_ (c x y:AV) (K:AV->Prop) (_t:Tag K):Prop:=pickAV c x y K
def nilAV_ (x:AV) (K:AV->Prop) (_t:Tag K):Prop:=nilAV x K
def withRow_ (o:Option AObj) (K:TypeId->List AV->Prop) (_t:Tag K):Prop:=withRow o K
def loadX_ (σ:Store) (agg:Bool) (n:Nat) (x:AV) (K:AV->Prop) (_t:Tag K):Prop:=loadX σ agg n x K
def indexX_ (n:Nat) (x i:AV) (K:AV->Prop) (_t:Tag K):Prop:=indexX n x i K
def refX_ (x:AV) (K:List AV->Prop) (_t:Tag K):Prop:=refX x K
def fieldX_ (n:Nat) (x:AV) (K:AV->Prop) (_t:Tag K):Prop:=fieldX n x K
def intX_ (x:AV) (K:Int->Prop) (_t:Tag K):Prop:=intX x K
def strX_ (x:AV) (K:List UInt8->Prop) (_t:Tag K):Prop:=strX x K
def aggX_ (x:AV) (K:List AV->Prop) (_t:Tag K):Prop:=aggX x K
def tupX_ (n:Nat) (x:AV) (K:AV->Prop) (_t:Tag K):Prop:=tupX n x K
def boolX_ (x:AV) (K:Bool->Prop) (_t:Tag K):Prop:=boolX x K
def eqsX_ (b:Bool) (ks:List Nat) (xs ys:List AV) (K:AV->Prop) (_t:Tag K):Prop:=eqsX b ks xs ys K
def eqnilX_ (kind:Nat) (b:Bool) (x:AV) (K:AV->Prop) (_t:Tag K):Prop:=eqnilX kind b x K
def eqvX_ (b:Bool) (r:Option Bool) (K:AV->Prop) (_t:Tag K):Prop:=match r with|some r=>K (.bool (if b then !r else r))|none=>False
def convX_ (k:IntKind) (x:AV) (K:AV->Prop) (_t:Tag K):Prop:=convX k x K
def lenX_ (x:AV) (K:AV->Prop) (_t:Tag K):Prop:=lenX x K
def scX_ (x:AV) (K:Value->Prop) (_t:Tag K):Prop:=scX x K
def scsX_ (G:Glob) (env:Env) (xs:List SOpd) (K:List Value->Prop) (_t:Tag K):Prop:=scsX G env xs K
def ownX_ (e:TypeId) (n:Nat) (x:AV) (K:Option Nat->List (List AV)->Prop) (_t:Tag K):Prop:=ownX e n x K
def srcX_ (n:Nat) (x:AV) (K:List (List AV)->Prop) (_t:Tag K):Prop:=srcX n x K
def ptrX_ (x:AV) (K:Nat->Nat->Prop) (_t:Tag K):Prop:=ptrX x K
def newX_ (σ:Store) (K:Nat->Prop) (_t:Tag K):Prop:=newX σ K
def fillAV_ (G:Glob) (env:Env) (cs:List AV) (ps:List (Nat×Nat×SOpd)) (K:List AV->Prop) (_t:Tag K):Prop:=fillAV G env cs ps K
def bound_ (G:Glob) (env:Env) (d:Int) (x:Option SOpd) (K:Int->Prop) (_t:Tag K):Prop:=bound G env d x K
variable {Q:Exit->Env->Store->Prop} {K:AV->Store->Prop} {K1:AV->Prop} {KE:Env->Store->Prop} {KQ:Env->Prop}
variable {KL:List AV->Prop} {KI:Int->Prop} {KB:Bool->Prop} {KR:Nat->List (List AV)->Prop} {KS:List UInt8->Prop} {KV:Value->Prop} {KVs:List Value->Prop} {KT:TypeId->List AV->Prop}
variable {KO:Option Nat->List (List AV)->Prop} {KRs:List (List AV)->Prop} {KP:Nat->Nat->Prop} {KN:Nat->Prop}
variable {tQ:Tag Q} {tK:Tag K} {t1:Tag K1} {tE:Tag KE} {tq:Tag KQ} {tL:Tag KL} {tI:Tag KI} {tB:Tag KB} {tR:Tag KR} {tS:Tag KS} {tV:Tag KV} {tVs:Tag KVs} {tT:Tag KT} {tO:Tag KO} {tRs:Tag KRs} {tP:Tag KP} {tN:Tag KN}
theorem split_true {A B:Prop} {ta:Tag A} {tb:Tag B}:split_ (.bool true) A B ta tb=(A):=by simp[split_]
theorem split_false {A B:Prop} {ta:Tag A} {tb:Tag B}:split_ (.bool false) A B ta tb=(B):=by simp[split_]
theorem W_skip:W G P .skip Q env σ tQ=(Q .normal env σ):=(rfl)
theorem W_region {ops:List SOper} {ks:List Nat}:W G P (.region ops ks) Q env σ tQ=(SR G P ops env σ (λenv σ=>Q .normal (env.keep ks) σ) ⟨⟩):=(rfl)
theorem W_drawL {ops:List SOper} {ks:List Nat}:W G P (.drawL ops ks) Q env σ tQ=(SR G P ops env σ (λenv σ=>Q .normal (env.keep ks) σ) ⟨⟩):=(rfl)
theorem W_draw {ops:List SOper} {ks:List Nat}:W G P (.draw ops ks) Q env σ tQ=(QR G P ops env σ (λenv=>Q .normal (env.keep ks) σ) ⟨⟩):=(rfl)
theorem W_ghost {ops:List SOper} {ks:List Nat}:W G P (.ghost ops ks) Q env σ tQ=(SR G P ops env σ (λenv σ=>∃env' σ',Weak G (env.keep ks) σ env' σ'/\Q .normal env' σ') ⟨⟩):=(rfl)
theorem W_seq {a b:SCode}:W G P (.seq a b) Q env σ tQ=(W G P a (NR (λenv σ=>W G P b Q env σ ⟨⟩) Q ⟨⟩ ⟨⟩) env σ ⟨⟩):=(rfl)
theorem W_block {i:Nat} {a:SCode}:W G P (.block i a) Q env σ tQ=(W G P a (BL i Q ⟨⟩) env σ ⟨⟩):=(rfl)
theorem W_exit {i:Nat}:W G P (.exit i) Q env σ tQ=(Q (.exit i) env σ):=(rfl)
theorem W_ret:W G P .ret Q env σ tQ=(Q .ret env σ):=(rfl)
theorem W_bad:W G P .bad Q env σ tQ=(False):=(rfl)
theorem AO_raw {op:Op}:AO G P (.raw op) env σ K tK=(RAW G P op env σ K ⟨⟩):=(rfl)
theorem AO_bad:AO G P .bad env σ K tK=(False):=(rfl)
theorem AQ_bad:AQ G P .bad env σ K1 t1=(False):=(rfl)
theorem W_cond {c:SOpd} {a b:SCode}:W G P (.cond c a b) Q env σ tQ=(split_ (c.eval G env) (W G P a Q env σ ⟨⟩) (W G P b Q env σ ⟨⟩) ⟨⟩ ⟨⟩):=(rfl)
theorem NR_normal:NR KE Q tE tQ .normal env σ=(KE env σ):=(rfl)
theorem NR_exit {i:Nat}:NR KE Q tE tQ (.exit i) env σ=(Q (.exit i) env σ):=(rfl)
theorem NR_ret:NR KE Q tE tQ .ret env σ=(Q .ret env σ):=(rfl)
theorem BL_normal {i:Nat}:BL i Q tQ .normal env σ=(Q .normal env σ):=(rfl)
theorem BL_exit_same {i:Nat}:BL i Q tQ (.exit i) env σ=(Q .normal env σ):=by simp[BL,onBlock]
theorem BL_exit {i j:Nat}:BL i Q tQ (.exit j) env σ=(if j=i then Q .normal env σ else Q (.exit j) env σ):=(rfl)
theorem BL_ret {i:Nat}:BL i Q tQ .ret env σ=(Q .ret env σ):=(rfl)
theorem SR_nil:SR G P [] env σ KE tE=(KE env σ):=(rfl)
theorem SR_none {d:Option Nat} {so:SOp} {rest:List SOper}:SR G P (⟨d,none,so⟩::rest) env σ KE tE=(AO G P so env σ (λr σ'=>SR G P rest (env.put d r) σ' KE ⟨⟩) ⟨⟩):=(rfl)
theorem SR_some {d:Option Nat} {j:Nat} {b:Bool} {so:SOp} {rest:List SOper}:SR G P (⟨d,some (j,b),so⟩::rest) env σ KE tE=(gd_ (env.get j) b (AO G P so (env.set j (.bool b)) σ (λr σ'=>SR G P rest ((env.set j (.bool b)).put d r) σ' KE ⟨⟩) ⟨⟩)
   (SR G P rest ((env.set j (.bool (!b))).put d undefAV) σ KE ⟨⟩) (SR G P rest (env.put d undefAV) σ KE ⟨⟩) ⟨⟩ ⟨⟩ ⟨⟩):=(rfl)
theorem QR_nil:QR G P [] env σ KQ tq=(KQ env):=(rfl)
theorem QR_none {d:Option Nat} {so:SOp} {rest:List SOper}:QR G P (⟨d,none,so⟩::rest) env σ KQ tq=(AQ G P so env σ (λr=>QR G P rest (env.put d r) σ KQ ⟨⟩) ⟨⟩):=(rfl)
theorem QR_some {d:Option Nat} {j:Nat} {b:Bool} {so:SOp} {rest:List SOper}:QR G P (⟨d,some (j,b),so⟩::rest) env σ KQ tq=(gd_ (env.get j) b (AQ G P so (env.set j (.bool b)) σ (λr=>QR G P rest ((env.set j (.bool b)).put d r) σ KQ ⟨⟩) ⟨⟩)
   (QR G P rest ((env.set j (.bool (!b))).put d undefAV) σ KQ ⟨⟩) (QR G P rest (env.put d undefAV) σ KQ ⟨⟩) ⟨⟩ ⟨⟩ ⟨⟩):=(rfl)
theorem gd_undef {b:Bool} {A B C:Prop} {ta:Tag A} {tb:Tag B} {tc:Tag C}:gd_ undefAV b A B C ta tb tc=(C):=(rfl)
theorem gd_tt {A B C:Prop} {ta:Tag A} {tb:Tag B} {tc:Tag C}:gd_ (.bool true) true A B C ta tb tc=(A):=by simp[gd_,gd]
theorem gd_tf {A B C:Prop} {ta:Tag A} {tb:Tag B} {tc:Tag C}:gd_ (.bool true) false A B C ta tb tc=(B):=by simp[gd_,gd]
theorem gd_ft {A B C:Prop} {ta:Tag A} {tb:Tag B} {tc:Tag C}:gd_ (.bool false) true A B C ta tb tc=(B):=by simp[gd_,gd]
theorem gd_ff {A B C:Prop} {ta:Tag A} {tb:Tag B} {tc:Tag C}:gd_ (.bool false) false A B C ta tb tc=(A):=by simp[gd_,gd]
theorem put_none {r:AV}:Env.put env none r=(env):=(rfl)
theorem put_some {d:Nat} {r:AV}:Env.put env (some d) r=(env.set d r):=(rfl)
theorem set_nil {d:Nat} {r:AV}:Env.set [] d r=([(d,r)]):=(rfl)
theorem set_cons {k d:Nat} {x r:AV}:Env.set ((k,x)::env) d r=(if k=d then (k,r)::env else (k,x)::Env.set env d r):=(rfl)
theorem get_nil {d:Nat}:Env.get [] d=(.any):=(rfl)
theorem get_cons {k d:Nat} {x:AV}:Env.get ((k,x)::env) d=(if k=d then x else Env.get env d):=(rfl)
theorem keep_nil {ks:List Nat}:Env.keep ks []=([]):=(rfl)
theorem keep_cons {k:Nat} {x:AV} {ks:List Nat}:Env.keep ks ((k,x)::env)=(if ks.contains k then (k,x)::Env.keep ks env else Env.keep ks env):=by simp only[Env.keep,List.filter_cons]
theorem sget_nil {b:Nat}:Store.get [] b=(none):=(rfl)
theorem sget_cons {k b:Nat} {x:AObj}:Store.get ((k,x)::σ) b=(if k=b then some x else Store.get σ b):=(rfl)
theorem sset_nil {b:Nat} {y:AObj}:Store.set [] b y=([]):=(rfl)
theorem sset_cons {k b:Nat} {x y:AObj}:Store.set ((k,x)::σ) b y=(if k=b then (k,y)::σ else (k,x)::Store.set σ b y):=(rfl)
theorem eval_t {i:Nat}:SOpd.eval G env (.t i)=(env.get i):=(rfl)
theorem eval_c {v:AV}:SOpd.eval G env (.c v)=(v):=(rfl)
theorem eval_f {i:Nat}:SOpd.eval G env (.f i)=(.sc (.func (.func i) #[] #[])):=(rfl)
theorem AO_mov {x:SOpd}:AO G P (.mov x) env σ K tK=((λr=>K r σ) (x.eval G env)):=(rfl)
theorem AQ_mov {x:SOpd}:AQ G P (.mov x) env σ K1 t1=((K1) (x.eval G env)):=(rfl)
theorem AO_pick {c a b:SOpd}:AO G P (.pick c a b) env σ K tK=(pickAV_ (c.eval G env) (a.eval G env) (b.eval G env) (λr=>K r σ) ⟨⟩):=(rfl)
theorem AQ_pick {c a b:SOpd}:AQ G P (.pick c a b) env σ K1 t1=(pickAV_ (c.eval G env) (a.eval G env) (b.eval G env) (K1) ⟨⟩):=(rfl)
theorem AO_nilCheck {x:SOpd}:AO G P (.nilCheck x) env σ K tK=(nilAV_ (x.eval G env) (λr=>K r σ) ⟨⟩):=(rfl)
theorem AQ_nilCheck {x:SOpd}:AQ G P (.nilCheck x) env σ K1 t1=(nilAV_ (x.eval G env) (K1) ⟨⟩):=(rfl)
theorem AO_load {agg:Bool} {n:Nat} {x:SOpd}:AO G P (.load agg n x) env σ K tK=(loadX_ σ agg n (x.eval G env) (λr=>K r σ) ⟨⟩):=(rfl)
theorem AQ_load {agg:Bool} {n:Nat} {x:SOpd}:AQ G P (.load agg n x) env σ K1 t1=(loadX_ σ agg n (x.eval G env) (K1) ⟨⟩):=(rfl)
theorem AO_build {zero:List AV} {parts:List (Nat×Nat×SOpd)}:AO G P (.build zero parts) env σ K tK=(fillAV_ G env zero parts (λcs=>(λr=>K r σ) (.agg cs)) ⟨⟩):=(rfl)
theorem AQ_build {zero:List AV} {parts:List (Nat×Nat×SOpd)}:AQ G P (.build zero parts) env σ K1 t1=(fillAV_ G env zero parts (λcs=>(K1) (.agg cs)) ⟨⟩):=(rfl)
theorem AO_fieldA {n:Nat} {x:SOpd}:AO G P (.fieldA n x) env σ K tK=(fieldX_ n (x.eval G env) (λr=>K r σ) ⟨⟩):=(rfl)
theorem AQ_fieldA {n:Nat} {x:SOpd}:AQ G P (.fieldA n x) env σ K1 t1=(fieldX_ n (x.eval G env) (K1) ⟨⟩):=(rfl)
theorem AO_indexA {n:Nat} {x i:SOpd}:AO G P (.indexA n x i) env σ K tK=(indexX_ n (x.eval G env) (i.eval G env) (λr=>K r σ) ⟨⟩):=(rfl)
theorem AQ_indexA {n:Nat} {x i:SOpd}:AQ G P (.indexA n x i) env σ K1 t1=(indexX_ n (x.eval G env) (i.eval G env) (K1) ⟨⟩):=(rfl)
theorem AO_indexP {m n:Nat} {x i:SOpd}:AO G P (.indexP m n x i) env σ K tK=(intX_ (i.eval G env) (λk=>0<=k/\k<m/\fieldX_ (k.toNat*n) (x.eval G env) (λr=>K r σ) ⟨⟩) ⟨⟩):=(rfl)
theorem AQ_indexP {m n:Nat} {x i:SOpd}:AQ G P (.indexP m n x i) env σ K1 t1=(intX_ (i.eval G env) (λk=>0<=k/\k<m/\fieldX_ (k.toNat*n) (x.eval G env) (K1) ⟨⟩) ⟨⟩):=(rfl)
theorem AO_index {x i:SOpd}:AO G P (.index x i) env σ K tK=(strX_ (x.eval G env) (λs=>intX_ (i.eval G env) (λn=>0<=n/\n<s.length/\(λr=>K r σ) (.int .u8 (s.getD n.toNat 0).toNat)) ⟨⟩) ⟨⟩):=(rfl)
theorem AQ_index {x i:SOpd}:AQ G P (.index x i) env σ K1 t1=(strX_ (x.eval G env) (λs=>intX_ (i.eval G env) (λn=>0<=n/\n<s.length/\(K1) (.int .u8 (s.getD n.toNat 0).toNat)) ⟨⟩) ⟨⟩):=(rfl)
theorem AO_slice {n:Nat} {x:SOpd} {lo hi:Option SOpd}:AO G P (.slice n x lo hi) env σ K tK=(sliceAV_ G env n (x.eval G env) lo hi (λr=>K r σ) ⟨⟩):=(rfl)
theorem AQ_slice {n:Nat} {x:SOpd} {lo hi:Option SOpd}:AQ G P (.slice n x lo hi) env σ K1 t1=(sliceAV_ G env n (x.eval G env) lo hi (K1) ⟨⟩):=(rfl)
theorem AO_sliceS {x:SOpd} {lo hi:Option SOpd}:AO G P (.sliceS x lo hi) env σ K tK=(strX_ (x.eval G env) (λs=>bound_ G env 0 lo (λl=>bound_ G env s.length hi (λh=>0<=l/\l<=h/\h<=s.length/\(λr=>K r σ) (.str ((s.take h.toNat).drop l.toNat))) ⟨⟩) ⟨⟩) ⟨⟩):=(rfl)
theorem AQ_sliceS {x:SOpd} {lo hi:Option SOpd}:AQ G P (.sliceS x lo hi) env σ K1 t1=(strX_ (x.eval G env) (λs=>bound_ G env 0 lo (λl=>bound_ G env s.length hi (λh=>0<=l/\l<=h/\h<=s.length/\(K1) (.str ((s.take h.toNat).drop l.toNat))) ⟨⟩) ⟨⟩) ⟨⟩):=(rfl)
theorem AO_field {agg:Bool} {m n:Nat} {x:SOpd}:AO G P (.field agg m n x) env σ K tK=(aggX_ (x.eval G env) (λcs=>loadAV_ agg n (cs.drop m) (λr=>K r σ) ⟨⟩) ⟨⟩):=(rfl)
theorem AQ_field {agg:Bool} {m n:Nat} {x:SOpd}:AQ G P (.field agg m n x) env σ K1 t1=(aggX_ (x.eval G env) (λcs=>loadAV_ agg n (cs.drop m) (K1) ⟨⟩) ⟨⟩):=(rfl)
theorem AO_extract {n:Nat} {x:SOpd}:AO G P (.extract n x) env σ K tK=(tupX_ n (x.eval G env) (λr=>K r σ) ⟨⟩):=(rfl)
theorem AQ_extract {n:Nat} {x:SOpd}:AQ G P (.extract n x) env σ K1 t1=(tupX_ n (x.eval G env) (K1) ⟨⟩):=(rfl)
theorem AO_bin {op:BinOp} {x y:SOpd}:AO G P (.bin op x y) env σ K tK=(binAV_ op (x.eval G env) (y.eval G env) (λr=>K r σ) ⟨⟩):=(rfl)
theorem AQ_bin {op:BinOp} {x y:SOpd}:AQ G P (.bin op x y) env σ K1 t1=(binAV_ op (x.eval G env) (y.eval G env) (K1) ⟨⟩):=(rfl)
theorem AO_eqb {n:Bool} {x y:SOpd}:AO G P (.eqb n x y) env σ K tK=(boolX_ (x.eval G env) (λa=>boolX_ (y.eval G env) (λb=>(λr=>K r σ) (.bool (if n then a != b else a==b))) ⟨⟩) ⟨⟩):=(rfl)
theorem AQ_eqb {n:Bool} {x y:SOpd}:AQ G P (.eqb n x y) env σ K1 t1=(boolX_ (x.eval G env) (λa=>boolX_ (y.eval G env) (λb=>(K1) (.bool (if n then a != b else a==b))) ⟨⟩) ⟨⟩):=(rfl)
theorem AO_eqs {b:Bool} {ks:List Nat} {x y:SOpd}:AO G P (.eqs b ks x y) env σ K tK=(aggX_ (x.eval G env) (λxs=>aggX_ (y.eval G env) (λys=>eqsX_ b ks xs ys (λr=>K r σ) ⟨⟩) ⟨⟩) ⟨⟩):=(rfl)
theorem AQ_eqs {b:Bool} {ks:List Nat} {x y:SOpd}:AQ G P (.eqs b ks x y) env σ K1 t1=(aggX_ (x.eval G env) (λxs=>aggX_ (y.eval G env) (λys=>eqsX_ b ks xs ys (K1) ⟨⟩) ⟨⟩) ⟨⟩):=(rfl)
theorem AO_eqnil {n:Nat} {b:Bool} {x:SOpd}:AO G P (.eqnil n b x) env σ K tK=(eqnilX_ n b (x.eval G env) (λr=>K r σ) ⟨⟩):=(rfl)
theorem AQ_eqnil {n:Nat} {b:Bool} {x:SOpd}:AQ G P (.eqnil n b x) env σ K1 t1=(eqnilX_ n b (x.eval G env) (K1) ⟨⟩):=(rfl)
theorem AO_not {x:SOpd}:AO G P (.not x) env σ K tK=(boolX_ (x.eval G env) (λb=>(λr=>K r σ) (.bool (!b))) ⟨⟩):=(rfl)
theorem AQ_not {x:SOpd}:AQ G P (.not x) env σ K1 t1=(boolX_ (x.eval G env) (λb=>(K1) (.bool (!b))) ⟨⟩):=(rfl)
theorem AO_conv {k:IntKind} {x:SOpd}:AO G P (.conv k x) env σ K tK=(convX_ k (x.eval G env) (λr=>K r σ) ⟨⟩):=(rfl)
theorem AQ_conv {k:IntKind} {x:SOpd}:AQ G P (.conv k x) env σ K1 t1=(convX_ k (x.eval G env) (K1) ⟨⟩):=(rfl)
theorem AO_str {x:SOpd}:AO G P (.str x) env σ K tK=(strX_ (x.eval G env) (λs=>(λr=>K r σ) (.str s)) ⟨⟩):=(rfl)
theorem AQ_str {x:SOpd}:AQ G P (.str x) env σ K1 t1=(strX_ (x.eval G env) (λs=>(K1) (.str s)) ⟨⟩):=(rfl)
theorem AO_len {x:SOpd}:AO G P (.len x) env σ K tK=(lenX_ (x.eval G env) (λr=>K r σ) ⟨⟩):=(rfl)
theorem AQ_len {x:SOpd}:AQ G P (.len x) env σ K1 t1=(lenX_ (x.eval G env) (K1) ⟨⟩):=(rfl)
theorem AO_lenS {x:SOpd}:AO G P (.lenS x) env σ K tK=(strX_ (x.eval G env) (λs=>(λr=>K r σ) (.int .i64 s.length)) ⟨⟩):=(rfl)
theorem AQ_lenS {x:SOpd}:AQ G P (.lenS x) env σ K1 t1=(strX_ (x.eval G env) (λs=>(K1) (.int .i64 s.length)) ⟨⟩):=(rfl)
theorem AO_mkfun {f:Fn} {a b:List SOpd}:AO G P (.mkfun f a b) env σ K tK=(scsX_ G env a (λvs=>scsX_ G env b (λus=>(λr=>K r σ) (.sc (.func f vs.toArray us.toArray))) ⟨⟩) ⟨⟩):=(rfl)
theorem AQ_mkfun {f:Fn} {a b:List SOpd}:AQ G P (.mkfun f a b) env σ K1 t1=(scsX_ G env a (λvs=>scsX_ G env b (λus=>(K1) (.sc (.func f vs.toArray us.toArray))) ⟨⟩) ⟨⟩):=(rfl)
theorem AO_alloc {e:TypeId} {zero:List AV}:AO G P (.alloc e zero) env σ K tK=(newX_ σ (λb=>K (.sc (.pointer (some ⟨b,0,none⟩))) ((b,.cells e zero)::σ)) ⟨⟩):=(rfl)
theorem AO_box {e:TypeId} {n:Nat} {x:SOpd}:AO G P (.box e n x) env σ K tK=(withCells_ (x.eval G env) (λc=>c.length=n/\newX_ σ (λb=>K (.sc (.pointer (some ⟨b,0,none⟩))) ((b,.cells e c)::σ)) ⟨⟩) ⟨⟩):=(rfl)
theorem AO_boxR {n:Nat} {x:SOpd}:AO G P (.boxR n x) env σ K tK=(withCells_ (x.eval G env) (λc=>c.length=n/\K (.ref c) σ) ⟨⟩):=(rfl)
theorem AO_loadF {agg:Bool} {n:Nat} {x:SOpd}:AO G P (.loadF agg n x) env σ K tK=(refX_ (x.eval G env) (λcs=>loadAV_ agg n cs (λr=>K r σ) ⟨⟩) ⟨⟩):=(rfl)
theorem refX_ref {cs:List AV}:refX_ (.ref cs) KL tL=(KL cs):=(rfl)
theorem W_drawT {t:DT} {ks:List Nat}:W G P (.drawT t ks) Q env σ tQ=(TR G P t env σ (λenv σ=>∃env' σ',Weak G (env.keep ks) σ env' σ'/\Q .normal env' σ') ⟨⟩):=(rfl)
theorem TR_done:TR G P .done env σ KE tE=(KE env σ):=(rfl)
theorem TR_none {d:Option Nat} {so:SOp} {t:DT}:TR G P (.step ⟨d,none,so⟩ t) env σ KE tE=(AO G P so env σ (λr σ'=>TR G P t (env.put d r) σ' KE ⟨⟩) ⟨⟩):=(rfl)
theorem TR_some {d:Option Nat} {j:Nat} {b:Bool} {so:SOp} {t:DT}:TR G P (.step ⟨d,some (j,b),so⟩ t) env σ KE tE=(gd_ (env.get j) b (AO G P so (env.set j (.bool b)) σ (λr σ'=>TR G P t ((env.set j (.bool b)).put d r) σ' KE ⟨⟩) ⟨⟩)
   (TR G P t ((env.set j (.bool (!b))).put d undefAV) σ KE ⟨⟩) (TR G P t (env.put d undefAV) σ KE ⟨⟩) ⟨⟩ ⟨⟩ ⟨⟩):=(rfl)
theorem AO_buildS {e:TypeId} {sz len:Nat} {zero:List AV} {parts:List (Nat×SOpd)}:AO G P (.buildS e sz len zero parts) env σ K tK=(fillAV_ G env zero (parts.map λp=>(p.1*sz,sz,p.2)) (λcs=>
   newX_ σ (λb=>∃rows:List (List AV),rows.length=len/\(∀r∈rows,r.length=sz)/\rows.flatten=cs/\K (.own (some b) e sz rows) ((b,.tok e (len*sz))::σ)) ⟨⟩) ⟨⟩):=(rfl)
theorem AO_store {n:Nat} {x y:SOpd}:AO G P (.store n x y) env σ K tK=(ptrX_ (x.eval G env) (λb o=>withRow_ (σ.get b) (λe cs=>withCells_ (y.eval G env) (λc=>
   c.length=n/\o+n<=cs.length/\K undefAV (σ.set b (.cells e (splice cs o c)))) ⟨⟩) ⟨⟩) ⟨⟩):=(rfl)
theorem AO_append {e:TypeId} {sz bytes:Nat} {x y:SOpd}:AO G P (.append e sz bytes x y) env σ K tK=(ownX_ e sz (x.eval G env) (λg rows=>srcX_ sz (y.eval G env) (λys=>appX e sz bytes σ g rows ys K) ⟨⟩) ⟨⟩):=(rfl)
theorem AO_call {f:SOpd} {args:List SOpd}:AO G P (.call f args) env σ K tK=(scX_ (f.eval G env) (λv=>CALL G P v (args.map (·.eval G env)) σ K ⟨⟩) ⟨⟩):=(rfl)
theorem AO_invoke {x:SOpd} {name:String} {args:List SOpd}:AO G P (.invoke x name args) env σ K tK=(scX_ (x.eval G env) (λv=>INV G P v name (args.map (·.eval G env)) σ K ⟨⟩) ⟨⟩):=(rfl)
theorem AO_mkI {t:TypeId} {x:SOpd}:AO G P (.mkI t x) env σ K tK=(scX_ (x.eval G env) (λv=>K (.sc (.iface t v)) σ) ⟨⟩):=(rfl)
theorem AQ_mkI {t:TypeId} {x:SOpd}:AQ G P (.mkI t x) env σ K1 t1=(scX_ (x.eval G env) (λv=>K1 (.sc (.iface t v))) ⟨⟩):=(rfl)
theorem AQ_call {f:SOpd} {args:List SOpd}:AQ G P (.call f args) env σ K1 t1=(scX_ (f.eval G env) (λv=>QCALL G P v (args.map (·.eval G env)) K1 ⟨⟩) ⟨⟩):=(rfl)
theorem pickAV_true {x y:AV}:pickAV_ (.bool true) x y K1 t1=(K1 x):=by simp[pickAV_,pickAV]
theorem pickAV_false {x y:AV}:pickAV_ (.bool false) x y K1 t1=(K1 y):=by simp[pickAV_,pickAV]
theorem nilAV_ref {cs:List AV}:nilAV_ (.ref cs) K1 t1=(K1 (.ref cs)):=(rfl)
theorem nilAV_ptr {a:Addr}:nilAV_ (.sc (.pointer (some a))) K1 t1=(K1 (.sc (.pointer (some a)))):=(rfl)
theorem nilAV_fun {k:Nat} {fs cs:Array Value}:nilAV_ (.sc (.func (.func k) fs cs)) K1 t1=(K1 (.sc (.func (.func k) fs cs))):=(rfl)
theorem withRow_some {e:TypeId} {cs:List AV}:withRow_ (some (.cells e cs)) KT tT=(KT e cs):=(rfl)
theorem loadX_ref {agg:Bool} {n:Nat} {cs:List AV}:loadX_ σ agg n (.ref cs) K1 t1=(loadAV_ agg n cs K1 ⟨⟩):=(rfl)
theorem loadX_ptr {agg:Bool} {n b o:Nat}:loadX_ σ agg n (.sc (.pointer (some ⟨b,o,none⟩))) K1 t1=(withRow_ (σ.get b) (λ_ cs=>loadAV_ agg n (cs.drop o) K1 ⟨⟩) ⟨⟩):=(rfl)
theorem loadAV_agg {n:Nat} {cs:List AV}:loadAV_ true n cs K1 t1=(n<=cs.length/\K1 (.agg (cs.take n))):=(rfl)
theorem loadAV_one {n:Nat} {cs:List AV}:loadAV_ false n cs K1 t1=(n<=cs.length/\K1 (cs.headD .any)):=(rfl)
theorem fieldX_ref {n:Nat} {cs:List AV}:fieldX_ n (.ref cs) K1 t1=(K1 (.ref (cs.drop n))):=(rfl)
theorem fieldX_ptr {n b o:Nat}:fieldX_ n (.sc (.pointer (some ⟨b,o,none⟩))) K1 t1=(K1 (.sc (.pointer (some ⟨b,o+n,none⟩)))):=(rfl)
theorem indexX_lst {n m:Nat} {rows:List (List AV)} {i:AV}:indexX_ n (.lst m rows) i K1 t1=(n=m/\intX_ i (λm=>0<=m/\m<rows.length/\K1 (.ref (rows.getD m.toNat []))) ⟨⟩):=(rfl)
theorem indexX_own {n m e:Nat} {g:Option Nat} {rows:List (List AV)} {i:AV}:indexX_ n (.own g e m rows) i K1 t1=(n=m/\intX_ i (λm=>0<=m/\m<rows.length/\K1 (.ref (rows.getD m.toNat []))) ⟨⟩):=(rfl)
theorem indexX_raw {n b o l c:Nat} {i:AV}:indexX_ n (.sc (.slice (some ⟨b,o,none⟩) l c)) i K1 t1=(intX_ i (λm=>0<=m/\m<l/\K1 (.sc (.pointer (some ⟨b,o+m.toNat*n,none⟩)))) ⟨⟩):=(rfl)
theorem intX_int {k:IntKind} {n:Int}:intX_ (.int k n) KI tI=(KI n):=(rfl)
theorem rowsOf_lst {n:Nat} {rows:List (List AV)}:rowsOf_ (.lst n rows) KR tR=(KR n rows):=(rfl)
theorem rowsOf_own {g:Option Nat} {e n:Nat} {rows:List (List AV)}:rowsOf_ (.own g e n rows) KR tR=(KR n rows):=(rfl)
theorem strX_str {s:List UInt8}:strX_ (.str s) KS tS=(KS s):=(rfl)
theorem aggX_agg {cs:List AV}:aggX_ (.agg cs) KL tL=(KL cs):=(rfl)
theorem tupX_tup {n:Nat} {cs:List AV}:tupX_ n (.tup cs) K1 t1=(n<cs.length/\K1 (cs.getD n .any)):=(rfl)
theorem boolX_bool {b:Bool}:boolX_ (.bool b) KB tB=(KB b):=(rfl)
theorem eqnil_nil {b:Bool}:eqnilX_ 0 b .nil K1 t1=(K1 (.bool (!b))):=(rfl)
theorem eqnil_lst {b:Bool} {n:Nat} {rows:List (List AV)}:eqnilX_ 0 b (.lst n rows) K1 t1=(∀c,(rows≠[]->c=b)->K1 (.bool c)):=(rfl)
theorem eqnil_own {b:Bool} {g:Option Nat} {e n:Nat} {rows:List (List AV)}:eqnilX_ 0 b (.own g e n rows) K1 t1=(K1 (.bool (if b then g.isSome else g.isNone))):=(rfl)
theorem eqnil_map {b:Bool} {r:Option Nat}:eqnilX_ 1 b (.sc (.map r)) K1 t1=(K1 (.bool (if b then r.isSome else r.isNone))):=(rfl)
theorem eqnil_fun {b:Bool} {f:Fn} {x y:Array Value}:eqnilX_ 2 b (.sc (.func f x y)) K1 t1=(K1 (.bool b)):=(rfl)
theorem eqnil_nofun {b:Bool}:eqnilX_ 2 b (.sc .nilFunc) K1 t1=(K1 (.bool (!b))):=(rfl)
theorem eqnil_ptr {b:Bool} {r:Option Addr}:eqnilX_ 3 b (.sc (.pointer r)) K1 t1=(K1 (.bool (if b then r.isSome else r.isNone))):=(rfl)
theorem eqnil_ref {b:Bool} {cs:List AV}:eqnilX_ 3 b (.ref cs) K1 t1=(K1 (.bool b)):=(rfl)
theorem eqsX_some {b:Bool} {ks:List Nat} {xs ys:List AV}:eqsX_ b ks xs ys K1 t1=(eqvX_ b (eqAV ks xs ys) K1 ⟨⟩):=rfl
theorem eqvX_some {b r:Bool}:eqvX_ b (some r) K1 t1=(K1 (.bool (if b then !r else r))):=(rfl)
theorem eqAV_nil:eqAV [] [] []=(some true):=(rfl)
theorem eqAV_0 {ks:List Nat} {a b:Bool} {xs ys:List AV}:eqAV (0::ks) (.bool a::xs) (.bool b::ys)=((eqAV ks xs ys).map ((a==b)&& ·)):=(rfl)
theorem eqAV_1 {ks:List Nat} {k:IntKind} {a b:Int} {xs ys:List AV}:eqAV (1::ks) (.int k a::xs) (.int k b::ys)=((eqAV ks xs ys).map (decide (a=b)&& ·)):=by simp[eqAV]
theorem eqAV_2 {ks:List Nat} {a b:List UInt8} {xs ys:List AV}:eqAV (2::ks) (.str a::xs) (.str b::ys)=((eqAV ks xs ys).map (decide (a=b)&& ·)):=(rfl)
theorem conv_int {k j:IntKind} {n:Int}:convX_ k (.int j n) K1 t1=(K1 (.int k (k.wrap n))):=(rfl)
theorem len_lst {n:Nat} {rows:List (List AV)}:lenX_ (.lst n rows) K1 t1=(K1 (.int .i64 rows.length)):=(rfl)
theorem len_own {g:Option Nat} {e n:Nat} {rows:List (List AV)}:lenX_ (.own g e n rows) K1 t1=(K1 (.int .i64 rows.length)):=(rfl)
theorem len_nil:lenX_ .nil K1 t1=(K1 (.int .i64 0)):=(rfl)
theorem len_sc {r:Option Addr} {n c:Nat}:lenX_ (.sc (.slice r n c)) K1 t1=(K1 (.int .i64 n)):=(rfl)
theorem scX_sc {v:Value}:scX_ (.sc v) KV tV=(KV v):=(rfl)
theorem scsX_nil:scsX_ G env [] KVs tVs=(KVs []):=(rfl)
theorem scsX_cons {x:SOpd} {xs:List SOpd}:scsX_ G env (x::xs) KVs tVs=(scX_ (x.eval G env) (λv=>scsX_ G env xs (λvs=>KVs (v::vs)) ⟨⟩) ⟨⟩):=(rfl)
theorem ownX_nil {e n:Nat}:ownX_ e n .nil KO tO=(KO none []):=(rfl)
theorem ownX_own {e n e2 n2:Nat} {g:Option Nat} {rows:List (List AV)}:ownX_ e n (.own g e2 n2 rows) KO tO=(e2=e/\n2=n/\KO g rows):=(rfl)
theorem srcX_nil {n:Nat}:srcX_ n .nil KRs tRs=(KRs []):=(rfl)
theorem srcX_lst {n m:Nat} {rows:List (List AV)}:srcX_ n (.lst m rows) KRs tRs=(m=n/\KRs rows):=(rfl)
theorem srcX_own {n m e:Nat} {g:Option Nat} {rows:List (List AV)}:srcX_ n (.own g e m rows) KRs tRs=(m=n/\KRs rows):=(rfl)
theorem ptrX_ptr {b o:Nat}:ptrX_ (.sc (.pointer (some ⟨b,o,none⟩))) KP tP=(KP b o):=(rfl)
theorem newX_eq:newX_ σ KN tN=(∀b,b∉σ.keys->KN b):=(rfl)
theorem cells_bool {b:Bool}:withCells_ (.bool b) KL tL=(KL [.bool b]):=(rfl)
theorem cells_int {k:IntKind} {n:Int}:withCells_ (.int k n) KL tL=(KL [.int k n]):=(rfl)
theorem cells_str {s:List UInt8}:withCells_ (.str s) KL tL=(KL [.str s]):=(rfl)
theorem cells_nil:withCells_ (.nil) KL tL=(KL [.nil]):=(rfl)
theorem cells_lst {m:Nat} {rows:List (List AV)}:withCells_ (.lst m rows) KL tL=(KL [.lst m rows]):=(rfl)
theorem cells_own {g:Option Nat} {e m:Nat} {rows:List (List AV)}:withCells_ (.own g e m rows) KL tL=(KL [.own g e m rows]):=(rfl)
theorem cells_ref {cs:List AV}:withCells_ (.ref cs) KL tL=(KL [.ref cs]):=(rfl)
theorem cells_agg {cs:List AV}:withCells_ (.agg cs) KL tL=(KL cs):=(rfl)
theorem cells_fun {f:Fn} {x y:Array Value}:withCells_ (.sc (.func f x y)) KL tL=(KL [.sc (.func f x y)]):=(rfl)
theorem cells_nofun:withCells_ (.sc .nilFunc) KL tL=(KL [.sc .nilFunc]):=(rfl)
theorem cells_ptr {r:Option Addr}:withCells_ (.sc (.pointer r)) KL tL=(KL [.sc (.pointer r)]):=(rfl)
theorem cells_map {r:Option Nat}:withCells_ (.sc (.map r)) KL tL=(KL [.sc (.map r)]):=(rfl)
theorem cells_slice {r:Option Addr} {n c:Nat}:withCells_ (.sc (.slice r n c)) KL tL=(KL [.sc (.slice r n c)]):=(rfl)
theorem fill_nil {cs:List AV}:fillAV_ G env cs [] KL tL=(KL cs):=(rfl)
theorem fill_cons {cs:List AV} {o n:Nat} {x:SOpd} {ps:List (Nat×Nat×SOpd)}:fillAV_ G env cs ((o,n,x)::ps) KL tL=(withCells_ (x.eval G env) (λc=>c.length=n/\o+n<=cs.length/\fillAV_ G env (splice cs o c) ps KL ⟨⟩) ⟨⟩):=(rfl)
theorem splice_zero {l c:List AV}:splice l 0 c=(c++l.drop c.length):=by cases l<;>rfl
theorem splice_succ {x:AV} {l c:List AV} {n:Nat}:splice (x::l) (n+1) c=(x::splice l n c):=(rfl)
theorem bin_eql {k:IntKind} {a b:Int}:binAV_ .eql (.int k a) (.int k b) K1 t1=(K1 (.bool (decide (a=b)))):=by simp[binAV_,binAV]
theorem bin_neq {k:IntKind} {a b:Int}:binAV_ .neq (.int k a) (.int k b) K1 t1=(K1 (.bool (decide (a≠b)))):=by simp[binAV_,binAV]
theorem bin_lss {k:IntKind} {a b:Int}:binAV_ .lss (.int k a) (.int k b) K1 t1=(K1 (.bool (decide (a<b)))):=by simp[binAV_,binAV]
theorem bin_leq {k:IntKind} {a b:Int}:binAV_ .leq (.int k a) (.int k b) K1 t1=(K1 (.bool (decide (a<=b)))):=by simp[binAV_,binAV]
theorem bin_gtr {k:IntKind} {a b:Int}:binAV_ .gtr (.int k a) (.int k b) K1 t1=(K1 (.bool (decide (b<a)))):=by simp[binAV_,binAV]
theorem bin_geq {k:IntKind} {a b:Int}:binAV_ .geq (.int k a) (.int k b) K1 t1=(K1 (.bool (decide (b<=a)))):=by simp[binAV_,binAV]
theorem bin_add {k:IntKind} {a b:Int}:binAV_ .add (.int k a) (.int k b) K1 t1=(K1 (.int k (k.wrap (a+b)))):=by simp[binAV_,binAV]
theorem bin_sub {k:IntKind} {a b:Int}:binAV_ .sub (.int k a) (.int k b) K1 t1=(K1 (.int k (k.wrap (a-b)))):=by simp[binAV_,binAV]
theorem bin_mul {k:IntKind} {a b:Int}:binAV_ .mul (.int k a) (.int k b) K1 t1=(K1 (.int k (k.wrap (a*b)))):=by simp[binAV_,binAV]
theorem bin_quo {k:IntKind} {a b:Int}:binAV_ .quo (.int k a) (.int k b) K1 t1=(b≠0/\K1 (.int k (k.wrap (a.tdiv b)))):=by simp[binAV_,binAV]
theorem bin_rem {k:IntKind} {a b:Int}:binAV_ .rem (.int k a) (.int k b) K1 t1=(b≠0/\K1 (.int k (a.tmod b))):=by simp[binAV_,binAV]
theorem bin_adds {a b:List UInt8}:binAV_ .add (.str a) (.str b) K1 t1=(a.length+b.length<9223372036854775808/\K1 (.str (a++b))):=(rfl)
theorem bin_eqls {a b:List UInt8}:binAV_ .eql (.str a) (.str b) K1 t1=(K1 (.bool (decide (a=b)))):=(rfl)
theorem bin_neqs {a b:List UInt8}:binAV_ .neq (.str a) (.str b) K1 t1=(K1 (.bool (decide (a≠b)))):=(rfl)
theorem bin_lsss {a b:List UInt8}:binAV_ .lss (.str a) (.str b) K1 t1=(K1 (.bool (Op.bytesLess a b))):=(rfl)
theorem bin_gtrs {a b:List UInt8}:binAV_ .gtr (.str a) (.str b) K1 t1=(K1 (.bool (!(Op.bytesLess a b||decide (a=b))))):=(rfl)
theorem slice_lst {n m:Nat} {rows:List (List AV)} {lo hi:Option SOpd}:sliceAV_ G env n (.lst m rows) lo hi K1 t1=(bound_ G env 0 lo (λl=>bound_ G env rows.length hi (λh=>n=m/\0<=l/\l<=h/\h<=rows.length/\K1 (.lst n ((rows.take h.toNat).drop l.toNat))) ⟨⟩) ⟨⟩):=(rfl)
theorem slice_own {n m e:Nat} {g:Option Nat} {rows:List (List AV)} {lo hi:Option SOpd}:sliceAV_ G env n (.own g e m rows) lo hi K1 t1=(bound_ G env 0 lo (λl=>bound_ G env rows.length hi (λh=>n=m/\0<=l/\l<=h/\h<=rows.length/\K1 (.lst n ((rows.take h.toNat).drop l.toNat))) ⟨⟩) ⟨⟩):=(rfl)
theorem slice_raw {n b o k c:Nat} {lo hi:Option SOpd}:sliceAV_ G env n (.sc (.slice (some ⟨b,o,none⟩) k c)) lo hi K1 t1=(bound_ G env 0 lo (λl=>bound_ G env k hi (λh=>0<=l/\l<=h/\h<=k/\k<=c/\l<c/\K1 (.sc (.slice (some ⟨b,o+l.toNat*n,none⟩) (h.toNat-l.toNat) (c-l.toNat)))) ⟨⟩) ⟨⟩):=(rfl)
theorem slice_nil {n:Nat} {lo hi:Option SOpd}:sliceAV_ G env n .nil lo hi K1 t1=(bound_ G env 0 lo (λl=>bound_ G env 0 hi (λh=>l=0/\h=0/\K1 .nil) ⟨⟩) ⟨⟩):=(rfl)
theorem bound_none {d:Int}:bound_ G env d none KI tI=(KI d):=(rfl)
theorem bound_some {d:Int} {x:SOpd}:bound_ G env d (some x) KI tI=(intX_ (x.eval G env) KI ⟨⟩):=(rfl)
end
theorem W_loop {G:Glob} {P:Program} {a:SCode} {Q:Exit->Env->Store->Prop} {tQ:Tag Q} {env:Env} {σ:Store} {ι:Type} (ok:ι->Prop) (μ:ι->Nat) (st:ι->Env) (ss:ι->Store)
  (i0:ι) (h0:ok i0) (hw:Weak G env σ (st i0) (ss i0))
  (round:∀i,ok i->W G P a (NR (λenv' σ'=>∃j,ok j/\μ j<μ i/\Weak G env' σ' (st j) (ss j)) Q ⟨⟩ ⟨⟩) (st i) (ss i) ⟨⟩):W G P (.loop a) Q env σ tQ:=by
 refine⟨λn e s=>∃i,ok i/\μ i=n/\e=st i/\s=ss i,μ i0,st i0,ss i0,⟨i0,h0,rfl,rfl,rfl⟩,hw,?_⟩
 rintro n e s ⟨i,hi,rfl,rfl,rfl⟩
 have:=round i hi
 have e2:(onNormal (λenv' σ'=>∃m env'' σ'',m<μ i/\(∃j,ok j/\μ j=m/\env''=st j/\σ''=ss j)/\Weak G env' σ' env'' σ'') Q)
   =(onNormal (λenv' σ'=>∃j,ok j/\μ j<μ i/\Weak G env' σ' (st j) (ss j)) Q):=by
  congr 1
  funext env' σ'
  apply propext
  constructor
  ·rintro⟨m,e,s,hm,⟨j,hj,rfl,rfl,rfl⟩,hw⟩;exact⟨j,hj,hm,hw⟩
  ·rintro⟨j,hj,hm,hw⟩;exact⟨_,_,_,hm,⟨j,hj,rfl,rfl,rfl⟩,hw⟩
 show swp G P a _ (st i) (ss i)
 rw[e2]
 exact this
theorem split_case {x:Bool} {A B:Prop} {ta:Tag A} {tb:Tag B} (h1:x=true->A) (h2:x=false->B):split_ (.bool x) A B ta tb:=⟨h1,h2⟩
theorem gd_case {x b:Bool} {A B C:Prop} {ta:Tag A} {tb:Tag B} {tc:Tag C} (h1:x=b->A) (h2:x= !b->B):gd_ (.bool x) b A B C ta tb tc:=⟨h1,h2⟩
theorem pick_case {t:Bool} {x y:AV} {K1:AV->Prop} {t1:Tag K1} (h1:t=true->K1 x) (h2:t=false->K1 y):pickAV_ (.bool t) x y K1 t1:=⟨h1,h2⟩
set_option linter.defProp false
def EV1:=(And.intro (And.intro (And.intro (And.intro (And.intro @split_true (And.intro @split_false @W_skip)) (And.intro @W_region (And.intro @W_drawL @W_draw))) (And.intro (And.intro @W_ghost (And.intro @W_seq @W_block)) (And.intro @W_exit (And.intro @W_ret @W_bad)))) (And.intro (And.intro (And.intro @AO_raw (And.intro @AO_bad @AQ_bad)) (And.intro @W_cond (And.intro @NR_normal @NR_exit))) (And.intro (And.intro @NR_ret (And.intro @BL_normal @BL_exit_same)) (And.intro @BL_exit (And.intro @BL_ret @SR_nil))))) (And.intro (And.intro (And.intro (And.intro @SR_none (And.intro @SR_some @QR_nil)) (And.intro @QR_none (And.intro @QR_some @gd_undef))) (And.intro (And.intro @gd_tt (And.intro @gd_tf @gd_ft)) (And.intro @gd_ff (And.intro @put_none @put_some)))) (And.intro (And.intro (And.intro @set_nil (And.intro @set_cons @get_nil)) (And.intro @get_cons (And.intro @keep_nil @keep_cons))) (And.intro (And.intro @sget_nil (And.intro @sget_cons @sset_nil)) (And.intro (And.intro @sset_cons @eval_t) (And.intro @eval_c @eval_f))))))
def EV2:=(And.intro (And.intro (And.intro (And.intro (And.intro @AO_mov (And.intro @AQ_mov @AO_pick)) (And.intro @AQ_pick (And.intro @AO_nilCheck @AQ_nilCheck))) (And.intro (And.intro @AO_load (And.intro @AQ_load @AO_build)) (And.intro @AQ_build (And.intro @AO_fieldA @AQ_fieldA)))) (And.intro (And.intro (And.intro @AO_indexA (And.intro @AQ_indexA @AO_indexP)) (And.intro @AQ_indexP (And.intro @AO_index @AQ_index))) (And.intro (And.intro @AO_slice (And.intro @AQ_slice @AO_sliceS)) (And.intro @AQ_sliceS (And.intro @AO_field @AQ_field))))) (And.intro (And.intro (And.intro (And.intro @AO_extract (And.intro @AQ_extract @AO_bin)) (And.intro @AQ_bin (And.intro @AO_eqb @AQ_eqb))) (And.intro (And.intro @AO_eqs (And.intro @AQ_eqs @AO_eqnil)) (And.intro @AQ_eqnil (And.intro @AO_not @AQ_not)))) (And.intro (And.intro (And.intro @AO_conv (And.intro @AQ_conv @AO_str)) (And.intro @AQ_str (And.intro @AO_len @AQ_len))) (And.intro (And.intro @AO_lenS (And.intro @AQ_lenS @AO_mkfun)) (And.intro (And.intro @AQ_mkfun @AO_alloc) (And.intro (And.intro (And.intro (And.intro (And.intro @W_drawT @TR_done) (And.intro @TR_none @TR_some)) (And.intro @AO_loadF @refX_ref)) (And.intro @AO_box @AO_boxR)) @AO_buildS))))))
def EV3:=(And.intro (And.intro (And.intro (And.intro (And.intro @AO_store (And.intro @AO_append @AO_call)) (And.intro @AO_invoke (And.intro @AO_mkI @AQ_mkI))) (And.intro (And.intro @AQ_call (And.intro @pickAV_true @pickAV_false)) (And.intro @nilAV_ref (And.intro @nilAV_ptr @nilAV_fun)))) (And.intro (And.intro (And.intro @withRow_some (And.intro @loadX_ref @loadX_ptr)) (And.intro @loadAV_agg (And.intro @loadAV_one @fieldX_ref))) (And.intro (And.intro @fieldX_ptr (And.intro @indexX_lst @indexX_own)) (And.intro @indexX_raw (And.intro @intX_int @rowsOf_lst))))) (And.intro (And.intro (And.intro (And.intro @rowsOf_own (And.intro @strX_str @aggX_agg)) (And.intro @tupX_tup (And.intro @boolX_bool @eqnil_nil))) (And.intro (And.intro @eqnil_lst (And.intro @eqnil_own @eqnil_map)) (And.intro @eqnil_fun (And.intro @eqnil_nofun @eqnil_ptr)))) (And.intro (And.intro (And.intro @eqnil_ref (And.intro @eqsX_some @eqvX_some)) (And.intro @eqAV_nil (And.intro @eqAV_0 @eqAV_1))) (And.intro (And.intro @eqAV_2 (And.intro @conv_int @len_lst)) (And.intro (And.intro @len_own @len_nil) (And.intro @scX_sc @scsX_nil))))))
def EV4:=(And.intro (And.intro (And.intro (And.intro (And.intro @scsX_cons @ownX_nil) (And.intro @ownX_own (And.intro @srcX_nil @srcX_lst))) (And.intro (And.intro @srcX_own (And.intro @ptrX_ptr @newX_eq)) (And.intro @cells_bool (And.intro @cells_int @cells_str)))) (And.intro (And.intro (And.intro @cells_nil (And.intro @cells_lst @cells_own)) (And.intro @cells_ref (And.intro @cells_agg @cells_fun))) (And.intro (And.intro @cells_nofun (And.intro @cells_ptr @cells_map)) (And.intro @fill_nil (And.intro @fill_cons @splice_zero))))) (And.intro (And.intro (And.intro (And.intro @splice_succ @bin_eql) (And.intro @bin_neq (And.intro @bin_lss @bin_leq))) (And.intro (And.intro @bin_gtr (And.intro @bin_geq @bin_add)) (And.intro @bin_sub (And.intro @bin_mul @bin_quo)))) (And.intro (And.intro (And.intro @bin_rem (And.intro @bin_adds @bin_eqls)) (And.intro @bin_neqs (And.intro @bin_lsss @bin_gtrs))) (And.intro (And.intro @slice_lst (And.intro @slice_own @slice_raw)) (And.intro @slice_nil (And.intro @bound_none (And.intro @bound_some (And.intro @len_sc @cells_slice))))))))
end
end Go.Av
