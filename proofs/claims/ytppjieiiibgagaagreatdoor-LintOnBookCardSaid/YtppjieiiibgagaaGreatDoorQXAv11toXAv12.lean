/-
  ABSTRACT VALUES, 11: all quiet operations in one.
-/
import Derived.Test.YtppjieiiibgagaaGreatDoorQXAv9toXAv10
import Derived.Deep.AppendSrc
set_option linter.all false
namespace Go.Av
open Go Go.RowKit List
section
variable {G:Glob} {P:Program} {τ:Store} {w:World} {env:Env} {a:Act} {o:Oper} {K:AV->Prop}
def m6 {op:BinOp} {t:TypeId} {x y:Operand} {D:Option Addr} {n c:Nat} {v:Value} (w':World):(eqGuard op t x y (.slice D n c) v).run P w'= .ok () w':=
 bT rfl (λe=>by cases e) w'
def pB {op:BinOp} {t:TypeId} {x y:Operand} {r:Option Nat} {v:Value} (w':World):(eqGuard op t x y (.map r) v).run P w'= .ok () w':=
 bT rfl (λe=>by cases e) w'
def oW {op:BinOp} {t:TypeId} {x y:Operand} {r:Option Addr} {v:Value} (w':World):(eqGuard op t x y (.pointer r) v).run P w'= .ok () w':=
 bT rfl (λe=>by cases e) w'
def oB {op:BinOp} {t:TypeId} {x y:Operand} {f:Fn} {xs ys:Array Value} {v:Value} (w':World):(eqGuard op t x y (.func f xs ys) v).run P w'= .ok () w':=
 bT rfl (λe=>by cases e) w'
def pN {op:BinOp} {t:TypeId} {x y:Operand} {v:Value} (w':World):(eqGuard op t x y .nilFunc v).run P w'= .ok () w':=
 bT rfl (λe=>by cases e) w'
def qD {t e:TypeId} (E:P.underlying t=some (.slice e)) (d:Nat) (D:Option Addr) (n c:Nat) (w':World):(Op.equalIn (d+1) t (.slice D n c) (.slice none 0 0)).run P w'= .ok D.isNone w':=by
 cases D<;>simp[Op.equalIn,run_underlying E]
def eqIn_map {t k e:TypeId} (D:P.underlying t=some (.map k e)) (d:Nat) (r:Option Nat) (w':World):(Op.equalIn (d+1) t (.map r) (.map none)).run P w'= .ok r.isNone w':=by
 cases r<;>simp[Op.equalIn,run_underlying D]
def eqIn_ptr {t e:TypeId} (D:P.underlying t=some (.pointer e)) (d:Nat) (r:Option Addr) (w':World):(Op.equalIn (d+1) t (.pointer r) (.pointer none)).run P w'= .ok r.isNone w':=by
 cases r<;>simp[Op.equalIn,run_underlying D]
def eqIn_nof {t:TypeId} {ps E:Array TypeId} {F:Bool} (D:P.underlying t=some (.func ps E F)) (d:Nat) (w':World):(Op.equalIn (d+1) t .nilFunc .nilFunc).run P w'= .ok true w':=by
 simp[Op.equalIn,run_underlying D]
def eqIn_func {t:TypeId} {ps E:Array TypeId} {F:Bool} (D:P.underlying t=some (.func ps E F)) (d:Nat) (f:Fn) (xs ys:Array Value) (w':World):(Op.equalIn (d+1) t (.func f xs ys) .nilFunc).run P w'= .ok false w':=by
 simp[Op.equalIn,run_underlying D]
def l0 {t:TypeId} {u v:Value} {b:Bool} (h:∀d w',(Op.equalIn (d+1) t u v).run P w'= .ok b w') (D:∀op,op= .eql\/op= .neq->binOp op t u v=(if op= .eql then (do pure (.bool (←Op.equal t u v)))else (do pure (.bool (!(←Op.equal t u v)))))) (w':World):
  (binOp .eql t u v).run P w'= .ok (.bool b) w'/\(binOp .neq t u v).run P w'= .ok (.bool (!b)) w':=by
 rw[D .eql (.inl rfl),D .neq (.inr rfl)]
 simp[Op.equal,Op.maxDepth,h 9999]
def fW {t u:TypeId} {neg b:Bool} {x y:Operand} {D E:Value} (F:o.op= .binOp (if neg then .neq else .eql) t x y u) (N:a.eval x=D) (O:a.eval y=E)
  (J:∀op w',(eqGuard op t x y D E).run P w'= .ok () w') (M:∀d w',(Op.equalIn (d+1) t D E).run P w'= .ok b w')
  (I:∀op,op= .eql\/op= .neq->binOp op t D E=(if op= .eql then (do pure (.bool (←Op.equal t D E)))else (do pure (.bool (!(←Op.equal t D E)))))) (V:K (.bool (if neg then !b else b))):QOk P τ w o a K:=by
 refine ce V (λw'=>?_)
 have T:=(l0 M I w').1
 have X:=(l0 M I w').2
 cases neg with
 |true=>
  simp only[if_true]at F;simp only[execOp,F,N,O,Sem.run_bind,J,Result.andThen_ok,X];rfl
 |false=>
  simp only[Bool.false_eq_true,if_false]at F;simp only[execOp,F,N,O,Sem.run_bind,J,Result.andThen_ok,T];rfl
def q_eqnil {t u:TypeId} {neg:Bool} {x y:Operand} {d:TypeDesc} {k:Nat} (N:o.op= .binOp (if neg then .neq else .eql) t x y u) (O:P.underlying t=some d) (F:oM d y=some k)
  (hS:Sat G τ w) (Z:∀j,Rep τ w (env.get j) (a.tmps.getD j undef)) (h:jt k neg ((SOpd.of x).eval G env) K):QOk P τ w o a K:=by
 have D:=au (G:=G) hS Z x
 unfold oM at F
 split at F
 ·cases F
  rename_i e;have M:a.eval (.const (.slice none 0 0))= .slice none 0 0:=rfl
  have T:∀(I:Option Addr) (n c:Nat),a.eval x= .slice I n c->K (.bool (if neg then I.isSome else I.isNone))->QOk P τ w o a K:=by
   intro I n c X V;refine fW (b:=I.isNone) N X M (λ_ w'=>m6 w') (λd w'=>qD O d I n c w') (λop h=>by rcases h with rfl|rfl<;>rfl) ?_
   ·cases I<;>simpa using V
  unfold jt at h
  split at h<;>first
   |exact h.elim
   |skip
  all_goals(rename_i E J;first|(exact absurd E (by decide))|skip)
  ·rw[J]at D;simp only[Rep]at D;exact T none 0 0 D (by cases neg<;>simpa using h)
  ·rename_i sz rows;rw[J]at D;simp only[Rep]at D
   rcases D with⟨D,hr⟩|⟨I,cap,D,_⟩
   ·exact T none 0 0 D (by have:=h (!neg) (λhn=>absurd hr hn);cases neg<;>simpa using this)
   ·exact T (some I) _ _ D (by have:=h neg (λ_=>rfl);cases neg<;>simpa using this)
  ·rename_i g e2 sz rows;rw[J]at D
   cases g with
   |none=>simp only[Rep]at D;exact T none 0 0 D.1 (by cases neg<;>simpa using h)
   |some b=>simp only[Rep]at D;obtain⟨cap,D,_⟩:=D;exact T (some _) _ _ D (by cases neg<;>simpa using h)
 ·cases F
  have M:a.eval (.const (.map none))= .map none:=rfl;unfold jt at h
  split at h<;>first
   |exact h.elim
   |skip
  all_goals(rename_i E J;first|(exact absurd E (by decide))|skip)
  rename_i r;rw[J]at D;simp only[Rep]at D;refine fW (b:=r.isNone) N D M (λ_ w'=>pB w') (λd w'=>eqIn_map O d r w') (λop h=>by rcases h with rfl|rfl<;>rfl) ?_
  ·cases r<;>simpa using h
 ·cases F
  have M:a.eval (.const .nilFunc)= .nilFunc:=rfl;unfold jt at h
  split at h<;>first
   |exact h.elim
   |skip
  all_goals(rename_i E J;first|(exact absurd E (by decide))|skip)
  ·rw[J]at D;simp only[Rep]at D;refine fW (b:=true) N D M (λ_ w'=>pN w') (λd w'=>eqIn_nof O d w') (λop h=>by rcases h with rfl|rfl<;>rfl) ?_
   ·cases neg<;>simpa using h
  ·rename_i f fs cs;rw[J]at D;simp only[Rep]at D;refine fW (b:=false) N D M (λ_ w'=>oB w') (λd w'=>eqIn_func O d f fs cs w') (λop h=>by rcases h with rfl|rfl<;>rfl) ?_
   ·cases neg<;>simpa using h
 ·cases F
  have M:a.eval (.const (.pointer none))= .pointer none:=rfl
  have Y:∀(r:Option Addr),a.eval x= .pointer r->K (.bool (if neg then r.isSome else r.isNone))->QOk P τ w o a K:=by
   intro r X V;refine fW (b:=r.isNone) N X M (λ_ w'=>oW w') (λd w'=>eqIn_ptr O d r w') (λop h=>by rcases h with rfl|rfl<;>rfl) ?_
   ·cases r<;>simpa using V
  unfold jt at h
  split at h<;>first
   |exact h.elim
   |skip
  all_goals(rename_i E J;first|(exact absurd E (by decide))|skip)
  ·rename_i r;rw[J]at D;simp only[Rep]at D;exact Y r D (by cases neg<;>simpa using h)
  ·rename_i cs;rw[J]at D;simp only[Rep]at D;obtain⟨I,D,_⟩:=D;exact Y (some I) D (by cases neg<;>simpa using h)
 ·cases F
def nV {env:Env} (F:Sat G τ w) (E:∀j,Rep τ w (env.get j) (a.tmps.getD j undef)):∀(xs:List Operand) (KV:List Value->Prop),scsX G env (xs.map SOpd.of) KV->KV (xs.map a.eval)
 |[],KV,h=>h
 |x::xs,KV,h=>by
  simp only[map_cons,scsX,scX]at h;have D:=au (G:=G) F E x;split at h
  ·rename_i v I;rw[I]at D;simp only[Rep]at D;have:=nV F E xs _ h;rw[map_cons,D];exact this
  ·exact h.elim
def q_mkfun {fn:Fn} {first cap:Array Operand} (N:o.op= .makeFunc fn first cap) (E:Sat G τ w) (D:∀j,Rep τ w (env.get j) (a.tmps.getD j undef))
  (h:scsX G env (first.toList.map SOpd.of) λvs=>scsX G env (cap.toList.map SOpd.of) λus=>K (.sc (.func fn vs.toArray us.toArray))):QOk P τ w o a K:=by
 have J:=nV E D _ _ h
 have M:=nV E D _ _ J
 refine⟨_,.func fn (first.toList.map a.eval).toArray (cap.toList.map a.eval).toArray,M,by simp only[Rep],λw' _=>?_⟩
 have F:first.map a.eval=(first.toList.map a.eval).toArray:=by apply Array.ext';simp
 have I:cap.map a.eval=(cap.toList.map a.eval).toArray:=by apply Array.ext';simp
 simp only[execOp,N,Instr.makeFunc,F,I]
 rfl
def d4 {op:Op} {N:SOp} {σ ρ:Store} (J:o.op=op) (D:ci P op=some N) (ac:τ=σ++ρ) (I:Sat G τ w) (F:∀j,Rep τ w (env.get j) (a.tmps.getD j undef)) (h:aq G N env σ K):QOk P τ w o a K:=by
 cases op with
 |move x=>cases D;exact q_mov (.inl J) I F h
 |assign x=>cases D;exact q_mov (.inr J) I F h
 |pick c x y=>cases D;exact q_pick J I F h
 |nilCheck x=>cases D;exact qO J I F h
 |load t x=>
  have D:dU P t x=some N:=D;unfold dU at D;split at D
  ·rename_i d n E M;split at D
   ·rename_i Z;cases D;exact q_load J E M Z ac I F h
   ·cases D
  ·cases D
 |makeInterface t x=>
  have D:fZ P t x=some N:=D;unfold fZ at D;split at D
  ·cases D
  ·rename_i d O E
   cases D
   exact q_mkI J E O I F h
  ·cases D
 |build t parts=>
  have D:ei P t parts=some N:=D;unfold ei at D;split at D
  ·rename_i fs z E hz;split at D
   ·cases D
   rename_i aa;obtain⟨sp,hm,rfl⟩:=Option.map_eq_some_iff.1 D;exact q_build J E hz (by simpa only[Bool.not_eq_true',Bool.not_eq_false]using aa) hm I F h
  ·cases D
 |fieldAddr t x i=>
  have D:cb P t x i=some N:=D;unfold cb at D;split at D
  ·rename_i fs E;split at D
   ·rename_i f V;split at D
    ·rename_i n M;cases D;exact q_fieldA J E V M I F h
    ·cases D
   ·cases D
  ·cases D
 |indexAddr t x i=>
  have D:dR P t x i=some N:=D;unfold dR at D;split at D
  ·rename_i e E;obtain⟨n,M,rfl⟩:=Option.map_eq_some_iff.1 D;exact q_indexA J E M I F h
  ·rename_i len e E;obtain⟨n,M,rfl⟩:=Option.map_eq_some_iff.1 D;exact q_indexP J E M I F h
  ·cases D
 |index t x i=>
  have D:ep P t x i=some N:=D;unfold ep at D;split at D
  ·rename_i E;cases D;exact q_index J E I F h
  ·cases D
 |slice t x lo hi mx=>
  cases mx with
  |some m=>cases D
  |none=>
   have D:et P t x lo hi=some N:=D;unfold et at D;split at D
   ·rename_i e E;obtain⟨n,M,rfl⟩:=Option.map_eq_some_iff.1 D;exact q_slice J E M I F h
   ·rename_i E;cases D;exact q_sliceS J E I F h
   ·cases D
 |field t x i=>
  have D:eu P t x i=some N:=D;unfold eu at D;split at D
  ·rename_i fs E;split at D
   ·rename_i f V;split at D
    ·rename_i d n O M;split at D
     ·rename_i Z;cases D;exact q_field J E V O M Z I F h
     ·cases D
    ·cases D
   ·cases D
  ·cases D
 |extract x i=>cases D;exact q_extract J I F h
 |binOp op t x y u=>
  have D:gi P op t x y=some N:=D
  have neg:∀{n:Bool},eqNeg op=some n->op=(if n then .neq else .eql):=by
   intro n M;cases op<;>cases M<;>rfl
  unfold gi at D;split at D
  ·split at D
   ·rename_i T;cases D;exact q_bin J (by cases op<;>first|(cases T;done)|simp) I F h
   ·cases D
  ·split at D
   ·rename_i T;cases D;exact q_bin J (by cases op<;>first|(cases T;done)|simp) I F h
   ·cases D
  ·rename_i E;obtain⟨n,M,rfl⟩:=Option.map_eq_some_iff.1 D;exact q_eqb (neg:=n) (by rw[J,neg M]) E I F h
  ·rename_i fs E;split at D
   ·rename_i ks V;split at D
    ·cases D
    rename_i hg;obtain⟨n,M,rfl⟩:=Option.map_eq_some_iff.1 D;exact q_eqs (neg:=n) (by rw[J,neg M]) E V (by simpa using hg) I F h
   ·cases D
  ·rename_i d E;split at D
   ·rename_i k hk;obtain⟨n,M,rfl⟩:=Option.map_eq_some_iff.1 D;exact q_eqnil (neg:=n) (by rw[J,neg M]) E hk I F h
   ·cases D
  ·cases D
 |unOp op t x=>
  cases op<;>first
   |(cases D;done)
   |(cases D;exact q_not J I F h)
 |convert s d x=>
  have D:fb P s d x=some N:=D;unfold fb at D;split at D
  ·rename_i j k hs O;cases D;exact q_conv J hs O I F h
  ·rename_i hs O;cases D;exact q_str J hs O I F h
  ·cases D
 |makeFunc fn first cap=>cases D;exact q_mkfun J I F h
 |alloc e=>
  have D:(da P e).map (.alloc e ·)=some N:=D;obtain⟨n,M,rfl⟩:=Option.map_eq_some_iff.1 D;exact h.elim
 |box e x=>
  have D:(bC P e).map (.box e · (SOpd.of x))=some N:=D;obtain⟨n,M,rfl⟩:=Option.map_eq_some_iff.1 D;exact h.elim
 |store t x y=>
  have D:(bC P t).map (.store · (SOpd.of x) (SOpd.of y))=some N:=D;obtain⟨n,M,rfl⟩:=Option.map_eq_some_iff.1 D;exact h.elim
 |buildSlice t len parts=>
  have D:dN P t len parts=some N:=D;unfold dN at D;split at D
  ·split at D
   ·split at D
    ·cases D;exact h.elim
    ·cases D
   ·cases D
  ·cases D
 |call c=>
  obtain⟨callee,args,argTypes⟩:=c
  cases callee with
  |invoke r m=>cases D;exact h.elim
  |value f=>cases D;exact h.elim
  |builtin b=>
   have D:bJ P b args.toList argTypes.toList=some N:=D;unfold bJ at D;split at D
   ·rename_i x t e1 e2 _e3
    have X:args=#[x]:=by apply Array.ext';simpa using e1
    have Y:argTypes=#[t]:=by apply Array.ext';simpa using e2
    subst X Y;split at D
    ·rename_i E;cases D;exact q_lenS J E I F h
    ·rename_i e E;cases D;exact q_len J E I F h
    ·cases D
   ·split at D
    ·split at D
     ·split at D
      ·cases D;exact h.elim
      ·cases D
     ·cases D
    ·cases D
   ·cases D
 |_=>cases D
end
def ObjSat.keep {σ σ' ρ:Store} {w w':World} (J:Ev σ w σ' w') {b:Nat} {x:AObj} (I:w'.heap[b]? =w.heap[b]?) (h:ObjSat (σ++ρ) w b x):ObjSat (σ'++ρ) w' b x:=by
 cases x with
 |cells e cs=>
  obtain⟨vs,D,E,F⟩:=h;exact⟨vs,I.trans D,E,RepL.ev J _ _ F⟩
 |tok e k=>
  obtain⟨vs,D,E⟩:=h;exact⟨vs,I.trans D,E⟩
 |map es=>
  obtain⟨ents,c,D,E,F⟩:=h;exact⟨ents,c,I.trans D,E,RepL.ev J _ _ F⟩
def Sat.lt_left {G:Glob} {σ ρ:Store} {w:World} (h:Sat G (σ++ρ) w) {b:Nat} (D:b∈σ.keys):b<w.heap.size:=
 h.key_lt (by rw[aC];exact mem_append.2 (.inl D))
def Sat.nodup_left {G:Glob} {σ ρ:Store} {w:World} (h:Sat G (σ++ρ) w):σ.keys.Nodup:=by
 have:=h.nodup;rw[aC]at this;exact(nodup_append.1 this).1
def Sat.alloc {G:Glob} {σ ρ:Store} {w:World} (h:Sat G (σ++ρ) w) (o:Obj) (x:AObj)
  (J:ObjSat (((w.heap.size,x)::σ)++ρ) (w.alloc o) w.heap.size x):Sat G (((w.heap.size,x)::σ)++ρ) (w.alloc o):=by
 refine h.step (Ev.alloc o x) ?_ ?_ ?_
 ·simp only[Store.keys,map_cons,nodup_cons]
  exact⟨λI=>Nat.lt_irrefl _ (h.lt_left I),h.nodup_left⟩
 ·intro b D
  simp only[Store.keys,map_cons,mem_cons]at D
  rcases D with rfl|D
  ·exact .inr (Nat.le_refl _)
  ·exact .inl D
 ·intro b y E
  rcases mem_cons.1 E with e|E
  ·cases e;exact J
  ·have F:=h.obj b y (mem_append.2 (.inl E));exact F.keep (Ev.alloc o x) (Below.heap_alloc w o b F.lt)
def aA.flat {τ:Store} {w:World} {a:Addr} {sz:Nat}:∀{i:Nat} {rows:List (List AV)},aA τ w a sz i rows->RepAt τ w a (i*sz) rows.flatten/\rows.flatten.length=rows.length*sz/\∀r∈rows,r.length=sz
 |i,[],_=>by simp[RepAt]
 |i,r::rs,h=>by
  simp only[aA]at h;obtain⟨E,M,N⟩:=h;obtain⟨k1,O,T⟩:=aA.flat N;refine⟨rP λj J=>?_,?_,?_⟩
  ·simp only[flatten_cons]at J ⊢;by_cases D:j<r.length
   ·rw[getElem_append_left D];exact M.get j D
   ·have F:j-r.length<rs.flatten.length:=by rw[length_append]at J;omega
    rw[getElem_append_right (by omega)];have:=k1.get (j-r.length) F;rw[show(i+1)*sz+(j-r.length)=i*sz+j by rw[Nat.add_mul,E];omega]at this;exact this
  ·simp[E,O,Nat.add_mul,Nat.add_comm]
  ·intro q I
   rcases mem_cons.1 I with rfl|I
   ·exact E
   ·exact T q I
def sP {τ:Store} {w:World} {a:Addr} {sz:Nat}:∀{i:Nat} {rows:List (List AV)},(∀r∈rows,r.length=sz)->RepAt τ w a (i*sz) rows.flatten->aA τ w a sz i rows
 |i,[],_,_=>by simp only[aA]
 |i,r::rs,hl,h=>by
  simp only[aA];have D:=hl r (by simp);simp only[flatten_cons]at h;refine⟨D,?_,sP (λq E=>hl q (mem_cons_of_mem _ E)) ?_⟩
  ·have:=h.take r.length;simpa using this
  ·refine rP λj F=>?_;have:=h.get (r.length+j) (by rw[length_append];omega);rw[getElem_append_right (by omega)]at this;simp only[Nat.add_sub_cancel_left]at this;rw[show(i+1)*sz+j=i*sz+(r.length+j)by rw[Nat.add_mul,D];omega];exact this
section
variable {G:Glob} {P:Program} {σ ρ:Store} {w:World} {env:Env} {a:Act} {o:Oper}
def Goes (G:Glob) (σ ρ:Store) (w:World) (a:Act) (o:Oper) (K:AV->Store->Prop) (next:Act->World->Prop):Prop:=
 ∀v r σ' w',K r σ'->Sat G (σ'++ρ) w'->Ev σ w σ' w'->Rep (σ'++ρ) w' r v->next (a.put o.dst v) w'
variable {K:AV->Store->Prop} {next:Act->World->Prop} {Q:Exit->Act->World->Prop}
def ca {v:Value} {w':World} (D:(execOp a.eval o).run P w= .ok (.value v) w') (h:next (a.put o.dst v) w'):o.wp P a w next Q:=by
 unfold Oper.wp;rw[D];exact h
def fu {w':World} (D:(execOp a.eval o).run P w= .ok .skip w') (h:next (a.put o.dst undef) w'):o.wp P a w next Q:=by
 unfold Oper.wp;rw[D];exact h
def e_quiet {op:Op} {F:SOp} (N:o.op=op) (T:ci P op=some F) (E:Sat G (σ++ρ) w) (I:∀j,Rep (σ++ρ) w (env.get j) (a.tmps.getD j undef)) (h:aq G F env σ λr=>K r σ)
  (M:Goes G σ ρ w a o K next):o.wp P a w next Q:=by
 obtain⟨r,u,J,O,D⟩:=d4 N T rfl E I h
 exact ca (D w (λ_=>Same.refl w)) (M u r σ w J E (Ev.refl σ w) O)
def ge (D:Sat G (σ++ρ) w):w.heap.size∉σ.keys:=λh=>Nat.lt_irrefl _ (D.lt_left h)
def e_alloc {e:TypeId} {z:List AV} (V:o.op= .alloc e) (N:da P e=some z) (J:Sat G (σ++ρ) w)
  (h:newX σ λb=>K (.p b) ((b,.cells e z)::σ)) (T:Goes G σ ρ w a o K next):o.wp P a w next Q:=by
 obtain⟨i,v,hi,M,_,O⟩:=dz (τ:=σ++ρ) (w:=w) N
 have E:(execOp a.eval o).run P w= .ok (.value (.p w.heap.size)) (w.alloc (.cells v.cells e)):=by
  simp[execOp,V,Instr.alloc,zeroValue,typeInfo,hi,M,newVar,newRow]
 refine ca E (T _ _ _ _ (h _ (ge J)) (J.alloc _ _ ?_) (Ev.alloc _ _) (by simp only[Rep]))
 obtain⟨X,Y,D,F,I,_⟩:=dz (τ:=((w.heap.size,.cells e z)::σ)++ρ) (w:=w.alloc (.cells v.cells e)) N
 rw[hi]at D;cases D
 rw[M]at F;cases F
 exact⟨v.cells,heap_alloc_new w _,O,I⟩
def oh {e:TypeId} {n:Nat} {x:Operand} (ho:o.op= .box e x) (F:Sat G (σ++ρ) w) (X:∀j,Rep (σ++ρ) w (env.get j) (a.tmps.getD j undef))
  (h:co ((SOpd.of x).eval G env) λc=>c.length=n/\K (.ref c) σ) (hn:Goes G σ ρ w a o K next):o.wp P a w next Q:=by
 unfold co at h
 split at h
 ·rename_i c Z
  obtain⟨r1,r2⟩:=iK Z (au F X x)
  have N:(execOp a.eval o).run P w= .ok (.value (.p w.heap.size)) (w.alloc (.cells (a.eval x).cells e)):=by
   simp[execOp,ho,Instr.box,newVar,newRow]
  have D:Ev σ w σ (w.alloc (.cells (a.eval x).cells e)):=tA _;have J:∀b y,(b,y)∈σ++ρ->b<w.heap.size:=λb y E=>(F.obj b y E).lt
  have O:Sat G (σ++ρ) (w.alloc (.cells (a.eval x).cells e)):=
   F.step D F.nodup_left (λb Y=>.inl Y) (λb y E=>(F.obj b y (mem_append.2 (.inl E))).keep D (Below.heap_alloc _ _ b (J b y (mem_append.2 (.inl E)))))
  refine ca N (hn _ _ _ _ h.2 O D ?_);have T:=RepL.ev D _ _ r1;have l1:=r1.length;simp only[Rep];refine⟨_,rfl,rP λj V=>?_⟩
  have I:j<(a.eval x).cells.toList.length:=by rw[l1];exact V
  refine⟨(a.eval x).cells.toList[j],⟨?_,?_⟩,r2 _ (getElem_mem _),T.get j V I⟩
  ·have M:=heap_alloc_new w (.cells (a.eval x).cells e);rw[add_lit];simp only[World.cell?,M,Nat.zero_add];simp at I ⊢
  ·rintro⟨y,E,_⟩;rw[add_block]at E;exact Nat.lt_irrefl _ (J _ _ E)
 ·exact h.elim
def e_box {e:TypeId} {n:Nat} {x:Operand} (M:o.op= .box e x) (E:Sat G (σ++ρ) w) (F:∀j,Rep (σ++ρ) w (env.get j) (a.tmps.getD j undef))
  (h:co ((SOpd.of x).eval G env) λc=>c.length=n/\newX σ λb=>K (.p b) ((b,.cells e c)::σ)) (J:Goes G σ ρ w a o K next):o.wp P a w next Q:=by
 unfold co at h
 split at h
 ·rename_i c I
  obtain⟨r1,r2⟩:=iK I (au E F x)
  have D:(execOp a.eval o).run P w= .ok (.value (.p w.heap.size)) (w.alloc (.cells (a.eval x).cells e)):=by
   simp[execOp,M,Instr.box,newVar,newRow]
  refine ca D (J _ _ _ _ (h.2 _ (ge E)) (E.alloc _ _ ?_) (Ev.alloc _ _) (by simp only[Rep]));exact⟨_,heap_alloc_new w _,r2,RepL.ev (Ev.alloc _ _) _ _ r1⟩
 ·exact h.elim
def Ev.setRow {b:Nat} {e:TypeId} {cs cs':List AV} {vs new:Array Value} (N:(b,AObj.cells e cs)∈σ) (V:w.heap[b]? =some (.cells vs e (0,0))) (Z:new.size=vs.size):
  Ev σ w (σ.set b (.cells e cs')) (w.setRow b new):=by
 have E:∀{σ:Store} (k:Nat) (y:AObj),(k,y)∈σ.set b (.cells e cs')->(k,y)∈σ\/(k=b/\y= .cells e cs'):=by
  intro σ
  induction σ with
  |nil=>intro k y h;simp[Store.set]at h
  |cons p s ih=>
   intro k y h;obtain⟨k0,x0⟩:=p;simp only[Store.set]at h;split at h
   ·rename_i F
    rcases mem_cons.1 h with h|h
    ·cases h;exact .inr ⟨F,rfl⟩
    ·exact .inl (mem_cons_of_mem _ h)
   ·rcases mem_cons.1 h with h|h
    ·cases h;exact .inl (by simp)
    ·rcases ih k y h with h|h
     ·exact .inl (mem_cons_of_mem _ h)
     ·exact .inr h
 have I:∀k,k∈(σ.set b (.cells e cs')).keys->k∈σ.keys:=by
  intro k F;obtain⟨p,Y,rfl⟩:=mem_map.1 F
  rcases E p.1 p.2 Y with h|⟨h,_⟩
  ·exact mem_map.2 ⟨p,h,rfl⟩
  ·rw[h];exact mem_map.2 ⟨_,N,rfl⟩
 refine⟨rfl,rfl,rfl,by simp,λk F X=>⟨setRow_other w b k new (λe=>X (by rw[e];exact mem_map.2 ⟨_,N,rfl⟩)),λh=>X (I k h)⟩,?_,?_⟩
 ·intro k s D
  unfold World.shape? at*;by_cases F:k=b
  ·subst F;rw[setRow_heap w k vs new e (0,0) V];rw[V]at D;simp at D ⊢;rw[Z];exact D
  ·rw[setRow_other w b k new F];exact D
 ·intro T v hv J
  have M:T.block≠b:=λh=>J ⟨AObj.cells e cs,by rw[h];exact N,trivial⟩;refine⟨by rw[World.cell?_of_block (w:=w) (setRow_other w b T.block new M)];exact hv,?_⟩;rintro⟨y,hy,O⟩
  rcases E _ _ hy with h|⟨h,_⟩
  ·exact J ⟨y,h,O⟩
  ·exact M h
def dV (b:Nat) (y:AObj):∀σ:Store,(σ.set b y).keys=σ.keys
 |[]=>rfl
 |(k,x)::s=>by
  simp only[Store.set];split
  ·simp[Store.keys]
  ·have:=dV b y s;simp only[Store.keys,map_cons]at*;rw[this]
def kP {b k:Nat} {y z:AObj}:∀{σ:Store},(k,z)∈σ.set b y->σ.keys.Nodup->(k=b/\z=y)\/(k≠b/\(k,z)∈σ)
 |[],h,_=>by simp[Store.set]at h
 |(k0,x0)::s,h,hn=>by
  simp only[Store.keys,map_cons,nodup_cons]at hn;simp only[Store.set]at h;split at h
  ·rename_i D;subst D
   rcases mem_cons.1 h with h|h
   ·cases h;exact .inl ⟨rfl,rfl⟩
   ·exact .inr ⟨λe=>hn.1 (mem_map.2 ⟨_,h,e⟩),mem_cons_of_mem _ h⟩
  ·rename_i D
   rcases mem_cons.1 h with h|h
   ·cases h;exact .inr ⟨D,by simp⟩
   ·rcases kP h hn.2 with h|⟨E,F⟩
    ·exact .inl h
    ·exact .inr ⟨E,mem_cons_of_mem _ F⟩
def e_store {t:TypeId} {n:Nat} {x y:Operand} (ho:o.op= .store t x y) (aa:bC P t=some n) (I:Sat G (σ++ρ) w) (hE:∀j,Rep (σ++ρ) w (env.get j) (a.tmps.getD j undef))
  (h:ptrX ((SOpd.of x).eval G env) λb off=>iD (σ.get b) λe cs=>co ((SOpd.of y).eval G env) λc=>
   c.length=n/\off+n<=cs.length/\K aG (σ.set b (.cells e (aJ cs off c)))) (hn:Goes G σ ρ w a o K next):o.wp P a w next Q:=by
 have hx:=au (G:=G) I hE x
 have hy:=au (G:=G) I hE y
 unfold ptrX at h
 split at h
 ·rename_i b off he
  rw[he]at hx;simp only[Rep]at hx;unfold iD at h;split at h
  ·rename_i e cs hg;have hm:=rv hg;obtain⟨vs,V,h1,hr⟩:=I.obj b _ (mem_append.2 (.inl hm));unfold co at h;split at h
   ·rename_i c hc;obtain⟨T,ac,X⟩:=h;obtain⟨r1,r2⟩:=iK hc hy;have l1:=hr.length;have O:=r1.length;have N:=run_storeCells_at P b off e (a.eval y).cells.toList 0 vs w V (by simp at l1 O ⊢;omega) r2;simp only[Nat.add_zero]at N;let new:Array Value:=(vs.toList.take off++(a.eval y).cells.toList++vs.toList.drop (off+(a.eval y).cells.toList.length)).toArray
    have F:new.size=vs.size:=by simp[new]at l1 O ⊢;omega
    have M:(execOp a.eval o).run P w= .ok .skip (w.setRow b new):=by
     have Z:(storeVar t ⟨b,off,none⟩ (a.eval y)).run P w= .ok () (w.setRow b new):=by
      unfold storeVar
      have:(a.eval y).cells.size=n:=by simp at O;omega
      simp[bF aa,this];simpa[new]using N
     simp[execOp,ho,Instr.storeAt,hx,Instr.sureAddr,Z]
    have D:Ev σ w (σ.set b (.cells e (aJ cs off c))) (w.setRow b new):=Ev.setRow hm V F;refine fu M (hn _ _ _ _ X ?_ D (by simp only[aG,Rep];exact⟨#[],rfl,by simp[RepL]⟩));have J:=I.nodup_left;refine I.step D (by rw[dV];exact J) (λk X=>.inl (by rwa [dV]at X)) ?_;intro k z hz
    rcases kP hz J with⟨rfl,rfl⟩|⟨Y,hz⟩
    ·refine⟨new,setRow_heap w k vs new e (0,0) V,?_,?_⟩
     ·intro v E;simp only[new,mem_append]at E
      rcases E with(E|E)|E
      ·exact h1 v (mem_of_mem_take E)
      ·exact r2 v E
      ·exact h1 v (mem_of_mem_drop E)
     ·have q1:=RepL.ev D _ _ hr;have q2:=RepL.ev D _ _ r1;rw[←O]at T;have e1:=bg cs off c (by omega);generalize (σ.set k (.cells e (aJ cs off c))++ρ:Store)=τ' at*;generalize w.setRow k new=w2 at*;rw[e1];simp only[new];rw[O];exact RepL.append (RepL.append (RepL.take _ q1) q2) (RepL.drop _ q1)
    ·exact(I.obj k z (mem_append.2 (.inl hz))).keep D (setRow_other w b k new Y)
   ·exact h.elim
  ·exact h.elim
 ·exact h.elim
end
end Go.Av
