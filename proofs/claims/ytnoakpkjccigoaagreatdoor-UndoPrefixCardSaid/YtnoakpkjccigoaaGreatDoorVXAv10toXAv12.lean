/-
  ABSTRACT VALUES, 10: comparisons, fields, function values; then all quiet operations in one.
-/
import Derived.Test.YtnoakpkjccigoaaGreatDoorVXAv6toXAv9
import Derived.WalkLawsBesides
import Derived.Deep.AppendSrc
namespace Go.Av
open Go Go.RowKit List
set_option linter.unusedSimpArgs false
set_option linter.unusedVariables false
section
variable {G:Glob} {P:Program} {τ:Store} {w:World} {env:Env} {a:Act} {o:Oper} {K:AV->Prop}
theorem iJ {k:IntKind} {n:Int} (D:K (.int k n)) (h:∀w',(execOp a.eval o).run P w'= .ok (.value (.int k n)) w'):QOk P τ w o a K:=⟨_,_,D,by simp only[Rep],λw' _=>h w'⟩
theorem bP {b:Bool} (D:K (.bool b)) (h:∀w',(execOp a.eval o).run P w'= .ok (.value (.bool b)) w'):QOk P τ w o a K:=⟨_,_,D,by simp only[Rep],λw' _=>h w'⟩
theorem qok_str {s:List UInt8} (D:K (.str s)) (h:∀w',(execOp a.eval o).run P w'= .ok (.value (.string ⟨⟨s⟩⟩)) w'):QOk P τ w o a K:=⟨_,_,D,by simp only[Rep],λw' _=>h w'⟩
theorem fR {t:TypeId} {d:TypeDesc} {n:Nat} (M:P.underlying t=some d) (J:bj P t=some n) (cs:Array Value) (off:Nat) (E:(aggD d||n==1)=true) (I:off+n<=cs.size) (w':World):
  (part t cs off).run P w'= .ok (if aggD d then .agg (cs.extract off (off+n))else (cs.toList.drop off).headD undef) w':=by
 unfold part
 rw[Sem.run_bind,cy M]
 cases F:aggD d with
 |true=>simp[bv J]
 |false=>
  simp[F]at E
  have D:off<cs.size:=by omega
  simp[D]
theorem mj {x:AV} {u:Value} {KL:List AV->Prop} (D:Rep τ w x u) (h:aggX x KL):∃cs vs,u= .agg vs/\KL cs/\(∀v∈vs.toList,v.oneCell'=true)/\RepL τ w cs vs.toList:=by
 unfold aggX at h
 split at h
 ·simp only[Rep]at D
  obtain⟨vs,E,F,I⟩:=D
  exact⟨_,vs,E,h,F,I⟩
 ·exact h.elim
theorem nG {x:AV} {u:Value} {KB:Bool->Prop} (D:Rep τ w x u) (h:gX x KB):∃b,u= .bool b/\KB b:=by
 unfold gX at h
 split at h
 ·simp only[Rep]at D
  exact⟨_,D,h⟩
 ·exact h.elim
theorem q_field {t:TypeId} {x:Operand} {fs:Array Field} {f:Field} {i n:Nat} {d:TypeDesc} (Y:o.op= .field t x i) (Z:P.underlying t=some (.struct fs)) (T:fs[i]? =some f) (O:P.underlying f.type=some d) (X:bj P f.type=some n)
  (N:(aggD d||n==1)=true) (hS:Sat G τ w) (hE:∀j,Rep τ w (env.get j) (a.tmps.getD j undef)) (h:aggX ((SOpd.of x).eval G env) λcs=>eV (aggD d) n (cs.drop f.offset) K):QOk P τ w o a K:=by
 obtain⟨cs,vs,hx,⟨F,V⟩,J,M⟩:=mj (ao hS hE x) h
 have hl:=M.length
 by_cases hz:n=0
 ·subst hz
  have E:aggD d=true:=by simpa using N
  refine⟨_,.agg #[],V,?_,λw' _=>?_⟩
  ·simp only[E,if_true,take_zero,Rep];exact⟨#[],rfl,by simp,by simp[RepL]⟩
  ·have:(part f.type vs f.offset).run P w'= .ok (.agg #[]) w':=by
    unfold part
    rw[Sem.run_bind,cy O]
    have e:vs.extract f.offset f.offset=#[]:=by apply Array.ext';simp
    simp[E,bv X,e]
   simp[execOp,Y,hx,Instr.field,run_underlying Z,T,asAgg,this]
 ·have I:f.offset+n<=vs.size:=by simp at F hl;omega
  refine⟨_,if aggD d then .agg (vs.extract f.offset (f.offset+n))else (vs.toList.drop f.offset).headD undef,V,?_,λw' _=>?_⟩
  ·cases E:aggD d with
   |true=>
    simp only[if_true,Rep]
    have e:(vs.extract f.offset (f.offset+n)).toList=(vs.toList.drop f.offset).take n:=by
     simp
    refine⟨_,rfl,λv hv=>J v ?_,?_⟩
    ·rw[e]at hv;exact mem_of_mem_drop (mem_of_mem_take hv)
    ·rw[e];exact RepL.take n (RepL.drop _ M)
   |false=>
    simp only[Bool.false_eq_true,if_false]
    have D:=RepL.drop f.offset M
    generalize cs.drop f.offset=xs at F D
    generalize vs.toList.drop f.offset=us at D
    cases xs with
    |nil=>simp at F;omega
    |cons x xs=>
     simp only[RepL]at D
     obtain⟨u,ac,rfl,h2,_⟩:=D
     exact h2
  ·simp[execOp,Y,hx,Instr.field,run_underlying Z,T,asAgg,fR O X vs f.offset N I]
theorem oY (s:List UInt8):(ByteArray.mk (Array.mk s)).toList=s:=ByteArray.toList_mk s
theorem append_mk (s t:List UInt8):(ByteArray.mk (Array.mk s))++(ByteArray.mk (Array.mk t))=⟨⟨s++t⟩⟩:=by
 have:((ByteArray.mk (Array.mk s))++(ByteArray.mk (Array.mk t))).data=⟨s++t⟩:=by
  rw[ByteArray.data_append]
  simp
 generalize (ByteArray.mk (Array.mk s))++(ByteArray.mk (Array.mk t))=b at*
 cases b;simp at this;simp[this]
theorem q_bin {t u:TypeId} {op:BinOp} {x y:Operand} (F:o.op= .binOp op t x y u) (N:op= .add\/op= .sub\/op= .mul\/op= .quo\/op= .rem\/op= .eql\/op= .neq\/op= .lss\/op= .leq\/op= .gtr\/op= .geq)
  (Z:Sat G τ w) (Y:∀j,Rep τ w (env.get j) (a.tmps.getD j undef)) (h:er op ((SOpd.of x).eval G env) ((SOpd.of y).eval G env) K):QOk P τ w o a K:=by
 have D:=ao (G:=G) Z Y x
 have E:=ao (G:=G) Z Y y
 unfold er at h
 split at h
 ·rename_i k1 I k2 J T V
  rw[T]at D
  rw[V]at E
  simp only[Rep]at D E
  obtain⟨rfl,h⟩:=h
  rcases N with rfl|rfl|rfl|rfl|rfl|rfl|rfl|rfl|rfl|rfl|rfl<;>simp only at h
  ·exact iJ h (λw'=>by simp[execOp,F,D,E,eqGuard,binOp,Op.intArith])
  ·exact iJ h (λw'=>by simp[execOp,F,D,E,eqGuard,binOp,Op.intArith])
  ·exact iJ h (λw'=>by simp[execOp,F,D,E,eqGuard,binOp,Op.intArith])
  ·exact iJ h.2 (λw'=>by simp[execOp,F,D,E,eqGuard,binOp,Op.intDiv,h.1])
  ·exact iJ h.2 (λw'=>by simp[execOp,F,D,E,eqGuard,binOp,Op.intDiv,h.1])
  ·refine bP h (λw'=>?_)
   have e:(I==J)=decide (I=J):=by by_cases M:I=J<;>simp[M]
   simp[execOp,F,D,E,eqGuard,binOp,Op.intCmp,e]
  ·refine bP h (λw'=>?_)
   have e:(I != J)=decide (I≠J):=by by_cases M:I=J<;>simp[M]
   simp[execOp,F,D,E,eqGuard,binOp,Op.intCmp,e]
  ·exact bP h (λw'=>by simp[execOp,F,D,E,eqGuard,binOp,Op.intCmp])
  ·exact bP h (λw'=>by simp[execOp,F,D,E,eqGuard,binOp,Op.intCmp])
  ·exact bP h (λw'=>by simp[execOp,F,D,E,eqGuard,binOp,Op.intCmp])
  ·exact bP h (λw'=>by simp[execOp,F,D,E,eqGuard,binOp,Op.intCmp])
 ·rename_i s1 s2 T V
  rw[T]at D
  rw[V]at E
  simp only[Rep]at D E
  have O:(s1==s2)=decide (s1=s2):=by by_cases M:s1=s2<;>simp[M]
  rcases N with rfl|rfl|rfl|rfl|rfl|rfl|rfl|rfl|rfl|rfl|rfl<;>simp only at h
  ·refine qok_str h.2 (λw'=>?_)
   have hm:¬((s1.length+s2.length:Nat):Int)>IntKind.i64.max:=by
    have e:IntKind.i64.max=9223372036854775807:=by decide
    rw[e];omega
   have X:Op.stringOp .add ⟨⟨s1⟩⟩ ⟨⟨s2⟩⟩=pure (.string ⟨⟨s1++s2⟩⟩):=by
    simp only[Op.stringOp,iL]
    rw[if_neg hm,append_mk]
   simp only[execOp,F,D,E,eqGuard,binOp,X]
   simp
  ·refine bP h (λw'=>?_)
   simp[execOp,F,D,E,eqGuard,binOp,Op.stringOp,O]
  ·refine bP h (λw'=>?_)
   simp[execOp,F,D,E,eqGuard,binOp,Op.stringOp,O]
  ·refine bP h (λw'=>?_)
   simp[execOp,F,D,E,eqGuard,binOp,Op.stringOp]
  ·refine bP h (λw'=>?_)
   simp[execOp,F,D,E,eqGuard,binOp,Op.stringOp,O]
  ·refine bP h (λw'=>?_)
   simp[execOp,F,D,E,eqGuard,binOp,Op.stringOp,O]
  ·refine bP h (λw'=>?_)
   simp[execOp,F,D,E,eqGuard,binOp,Op.stringOp]
 ·exact h.elim
theorem bH {op:BinOp} {t:TypeId} {x y:Operand} {u v:Value} (E:u.oneCell'=true) (D:∀(_:u= .nilIface),False) (w':World):(eqGuard op t x y u v).run P w'= .ok () w':=by
 unfold eqGuard
 cases op<;>simp
 all_goals(cases u<;>simp_all[Value.oneCell'])
theorem q_eqb {t u:TypeId} {neg:Bool} {x y:Operand} (D:o.op= .binOp (if neg then .neq else .eql) t x y u) (J:P.underlying t=some .bool)
  (F:Sat G τ w) (E:∀j,Rep τ w (env.get j) (a.tmps.getD j undef)) (h:gX ((SOpd.of x).eval G env) λp=>gX ((SOpd.of y).eval G env) λq=>K (.bool (if neg then p != q else p==q))):QOk P τ w o a K:=by
 obtain⟨p,M,h⟩:=nG (ao F E x) h
 obtain⟨q,N,h⟩:=nG (ao F E y) h
 refine bP h (λw'=>?_)
 have I:=λop=>bH (P:=P) (op:=op) (t:=t) (x:=x) (y:=y) (u:=.bool p) (v:=.bool q) rfl (λe=>by cases e) w'
 cases neg with
 |true=>
  simp only[if_true]at D
  simp only[execOp,D,M,N,Sem.run_bind,I,Result.andThen_ok,run_neq_bool w' t p q J]
  cases p<;>cases q<;>rfl
 |false=>
  simp only[Bool.false_eq_true,if_false]at D
  simp only[execOp,D,M,N,Sem.run_bind,I,Result.andThen_ok,run_eql_bool w' t p q J]
  rfl
def eqK:List Nat->List Value->List Value->Option Bool
 |[],_,_=>some true
 |0::ks,.bool a::xs,.bool b::ys=>(eqK ks xs ys).map ((a==b)&& ·)
 |1::ks,.int k a::xs,.int k' b::ys=>if k=k' then (eqK ks xs ys).map (decide (a=b)&& ·)else none
 |2::ks,.string a::xs,.string b::ys=>(eqK ks xs ys).map ((a.toList==b.toList)&& ·)
 |_,_,_=>none
theorem eqK_of_AV:∀(ks:List Nat) (xs ys:List AV) (us vs:List Value) (r:Bool),RepL τ w xs us->RepL τ w ys vs->eqAV ks xs ys=some r->eqK ks us vs=some r/\us.length=ks.length/\vs.length=ks.length:=by
 intro ks
 induction ks with
 |nil=>
  intro xs ys us vs r F I h
  match xs,ys,h with
  |[],[],h=>simp only[RepL]at F I;subst F I;simpa[eqAV,eqK]using h
 |cons k ks ih=>
  intro xs ys us vs r F I h
  unfold eqAV at h
  split at h
  ·simp_all
  ·rename_i Y a D b E X
   cases X
   simp only[RepL,Rep]at F I
   obtain⟨_,M,rfl,rfl,F⟩:=F
   obtain⟨_,N,rfl,rfl,I⟩:=I
   cases J:eqAV ks D E with
   |none=>simp[J]at h
   |some r'=>
    obtain⟨O,T,V⟩:=ih D E M N r' F I J
    refine⟨?_,by simp[T],by simp[V]⟩
    simpa[eqK,O,J]using h
  ·rename_i Y k1 a D k2 b E X
   cases X
   split at h
   ·rename_i hk
    simp only[RepL,Rep]at F I
    obtain⟨_,M,rfl,rfl,F⟩:=F
    obtain⟨_,N,rfl,rfl,I⟩:=I
    cases J:eqAV ks D E with
    |none=>simp[J]at h
    |some r'=>
     obtain⟨O,T,V⟩:=ih D E M N r' F I J
     refine⟨?_,by simp[T],by simp[V]⟩
     simpa[eqK,O,J,hk]using h
   ·cases h
  ·rename_i Y a D b E X
   cases X
   simp only[RepL,Rep]at F I
   obtain⟨_,M,rfl,rfl,F⟩:=F
   obtain⟨_,N,rfl,rfl,I⟩:=I
   cases J:eqAV ks D E with
   |none=>simp[J]at h
   |some r'=>
    obtain⟨O,T,V⟩:=ih D E M N r' F I J
    refine⟨?_,by simp[T],by simp[V]⟩
    have Z:(a==b)=decide (a=b):=by by_cases hc:a=b<;>simp[hc]
    simpa[eqK,O,J,oY,Z]using h
  ·cases h
theorem fu:∀(k1 I:List Nat) (xs ys:List Value) (r:Bool),eqK (k1++I) xs ys=some r->∃r1 r2,eqK k1 xs ys=some r1/\eqK I (xs.drop k1.length) (ys.drop k1.length)=some r2/\r=(r1&&r2)
 |[],I,xs,ys,r,h=>⟨true,r,by simp[eqK],by simpa using h,by simp⟩
 |k::k1,I,xs,ys,r,h=>by
  rw[cons_append]at h
  unfold eqK at h
  split at h
  ·simp_all
  ·rename_i O a D b E N
   cases N
   cases F:eqK (k1++I) D E with
   |none=>simp[F]at h
   |some r'=>
    obtain⟨r1,r2,J,M,rfl⟩:=fu k1 I D E r' F
    refine⟨(a==b)&&r1,r2,by simp[eqK,J],by simpa using M,?_⟩
    simp[F]at h
    rw[←h,Bool.and_assoc]
  ·rename_i O V a D X b E N
   cases N
   split at h
   ·rename_i T
    cases F:eqK (k1++I) D E with
    |none=>simp[F]at h
    |some r'=>
     obtain⟨r1,r2,J,M,rfl⟩:=fu k1 I D E r' F
     refine⟨decide (a=b)&&r1,r2,by simp[eqK,J,T],by simpa using M,?_⟩
     simp[F]at h
     rw[←h,Bool.and_assoc]
   ·cases h
  ·rename_i O a D b E N
   cases N
   cases F:eqK (k1++I) D E with
   |none=>simp[F]at h
   |some r'=>
    obtain⟨r1,r2,J,M,rfl⟩:=fu k1 I D E r' F
    refine⟨(a.toList==b.toList)&&r1,r2,by simp[eqK,J],by simpa using M,?_⟩
    simp[F]at h
    rw[←h,Bool.and_assoc]
  ·cases h
theorem nK:∀(ks:List Nat) (n:Nat) (xs ys:List Value),ks.length<=n->eqK ks (xs.take n) (ys.take n)=eqK ks xs ys
 |[],n,xs,ys,_=>by simp[eqK]
 |k::ks,n+1,xs,ys,h=>by
  have ih:=λxs ys=>nK ks n xs ys (by simpa using h)
  cases xs with
  |nil=>simp[eqK]
  |cons x xs=>
   cases ys with
   |nil=>simp[eqK]
   |cons y ys=>
    simp only[take_succ_cons]
    rcases k with _|_|_|k<;>(cases x<;>cases y<;>first|(simp only[eqK,ih];done)|(show Option.map _ (eqK ks (List.take n xs) (List.take n ys))=_;rw[ih];rfl)|(show(if _=_ then Option.map _ (eqK ks (List.take n xs) (List.take n ys))else none)=_;rw[ih];rfl)|rfl)
 |k::ks,0,xs,ys,h=>by simp at h
def FlatOk (P:Program) (d:Nat):Prop:=
 ∀(t:TypeId) (ks:List Nat),du P d t=some ks->∀(D:Nat) (xs ys:Array Value) (off:Nat) (r:Bool),d<=D->off+ks.length<=xs.size->off+ks.length<=ys.size->
  eqK ks (xs.toList.drop off) (ys.toList.drop off)=some r->∀w':World,
  ∃u v,(part t xs off).run P w'= .ok u w'/\(part t ys off).run P w'= .ok v w'/\(Op.equalIn (D+1) t u v).run P w'= .ok r w'
theorem dJ {d:Nat} (I:FlatOk P d):∀(fs:List Field) (off:Nat) (ks:List Nat),eP (du P d) fs off=some ks->∀(D:Nat) (xs ys:Array Value) (r:Bool),d<=D->off+ks.length<=xs.size->off+ks.length<=ys.size->
  eqK ks (xs.toList.drop off) (ys.toList.drop off)=some r->∀w':World,(Op.eqFields (D+1) xs ys fs).run P w'= .ok r w'
 |[],off,ks,h,D,xs,ys,r,_,_,_,he,w'=>by
  simp only[eP]at h
  cases h
  simp[eqK]at he
  subst he
  simp[Op.eqFields]
 |f::fs,off,ks,h,D,xs,ys,r,hD,hx,hy,he,w'=>by
  simp only[eP]at h
  split at h
  ·cases h
  rename_i E
  simp at E
  split at h
  ·rename_i k1 N
   split at h
   ·rename_i J O
    cases h
    obtain⟨r1,r2,M,F,rfl⟩:=fu k1 J _ _ r he
    simp only[length_append]at hx hy
    obtain⟨u,v,T,V,X⟩:=I f.type k1 N D xs ys f.offset r1 hD (by rw[E.2];omega) (by rw[E.2];omega) (by rw[E.2];exact M) w'
    simp only[Op.eqFields,if_pos (show f.name≠ "_" from E.1),Sem.run_bind,T,V,X,Result.andThen_ok]
    cases r1 with
    |false=>simp
    |true=>
     have:=dJ I fs (off+k1.length) J O D xs ys r2 hD (by omega) (by omega) (by rw[drop_drop]at F;rw[drop_drop]at F;exact F) w'
     simpa using this
   ·cases h
  ·cases h
theorem flatOk (P:Program):∀d,FlatOk P d
 |0,t,ks,h=>by simp[du]at h
 |d+1,t,ks,h=>by
  intro D xs ys off r hD O T F w'
  simp only[du]at h
  split at h
  ·rename_i E
   cases h
   simp at O T
   have J:xs.toList.drop off=xs[off]::xs.toList.drop (off+1):=by rw[drop_eq_getElem_cons (by simp;omega)];simp
   have M:ys.toList.drop off=ys[off]::ys.toList.drop (off+1):=by rw[drop_eq_getElem_cons (by simp;omega)];simp
   rw[J,M]at F
   refine⟨xs[off],ys[off],?_,?_,?_⟩
   ·unfold part;rw[Sem.run_bind,cy E];simp[aggD,show off<xs.size by omega]
   ·unfold part;rw[Sem.run_bind,cy E];simp[aggD,show off<ys.size by omega]
   ·generalize xs[off]=x at*
    generalize ys[off]=y at*
    cases x<;>cases y<;>simp[eqK]at F
    subst F
    exact run_equalIn_bool' w' D t _ _ E
  ·rename_i E
   cases h
   simp at O T
   have J:xs.toList.drop off=xs[off]::xs.toList.drop (off+1):=by rw[drop_eq_getElem_cons (by simp;omega)];simp
   have M:ys.toList.drop off=ys[off]::ys.toList.drop (off+1):=by rw[drop_eq_getElem_cons (by simp;omega)];simp
   rw[J,M]at F
   refine⟨xs[off],ys[off],?_,?_,?_⟩
   ·unfold part;rw[Sem.run_bind,cy E];simp[aggD,show off<xs.size by omega]
   ·unfold part;rw[Sem.run_bind,cy E];simp[aggD,show off<ys.size by omega]
   ·generalize xs[off]=x at*
    generalize ys[off]=y at*
    cases x<;>cases y<;>simp[eqK]at F
    obtain⟨rfl,rfl⟩:=F
    rw[run_equalIn_int w' D t _ _ _ _ E]
    rename_i k a b
    by_cases hc:a=b<;>simp[hc]
  ·rename_i E
   cases h
   simp at O T
   have J:xs.toList.drop off=xs[off]::xs.toList.drop (off+1):=by rw[drop_eq_getElem_cons (by simp;omega)];simp
   have M:ys.toList.drop off=ys[off]::ys.toList.drop (off+1):=by rw[drop_eq_getElem_cons (by simp;omega)];simp
   rw[J,M]at F
   refine⟨xs[off],ys[off],?_,?_,?_⟩
   ·unfold part;rw[Sem.run_bind,cy E];simp[aggD,show off<xs.size by omega]
   ·unfold part;rw[Sem.run_bind,cy E];simp[aggD,show off<ys.size by omega]
   ·generalize xs[off]=x at*
    generalize ys[off]=y at*
    cases x<;>cases y<;>simp[eqK]at F
    subst F
    exact run_equalIn_string w' D t _ _ E
  ·rename_i fs E
   split at h
   ·cases h
   rename_i Y
   split at h
   ·rename_i al X
    split at h
    ·rename_i Z
     cases h
     have I:bj P t=some ks.length:=by simpa using Z
     have N:aggD (.struct fs)=true:=rfl
     refine⟨_,_,fR E I xs off (by simp[N]) O w',fR E I ys off (by simp[N]) T w',?_⟩
     simp only[N,if_true]
     have ht:P.underlying t=some (.struct (P.fieldsOf t)):=by simp[Program.fieldsOf,E]
     have V:P.fieldsOf t=fs:=by simp[Program.fieldsOf,E]
     obtain⟨D',rfl⟩:∃D',D=D'+1:=⟨D-1,by omega⟩
     rw[run_equalIn_struct w' (D'+1) t _ _ ht (by simpa using Y),V]
     have ac:(xs.extract off (off+ks.length)).size=ks.length:=by simp;omega
     have ah:(ys.extract off (off+ks.length)).size=ks.length:=by simp;omega
     refine dJ (flatOk P d) fs.toList 0 ks X D' _ _ r (by omega) (by omega) (by omega) ?_ w'
     have J:(xs.extract off (off+ks.length)).toList=(xs.toList.drop off).take ks.length:=by simp
     have M:(ys.extract off (off+ks.length)).toList=(ys.toList.drop off).take ks.length:=by simp
     simp only[drop_zero]
     rw[J,M,nK _ _ _ _ (Nat.le_refl _)]
     exact F
    ·cases h
   ·cases h
  ·cases h
theorem q_eqs {t u:TypeId} {neg:Bool} {x y:Operand} {fs:Array Field} {ks:List Nat} (M:o.op= .binOp (if neg then .neq else .eql) t x y u) (O:P.underlying t=some (.struct fs)) (F:du P 8 t=some ks) (X:P.eqGuardType P.depth t=false)
  (V:Sat G τ w) (T:∀j,Rep τ w (env.get j) (a.tmps.getD j undef)) (h:aggX ((SOpd.of x).eval G env) λxs=>aggX ((SOpd.of y).eval G env) λys=>eqsX neg ks xs ys K):QOk P τ w o a K:=by
 obtain⟨xs,us,Y,h,_,rx⟩:=mj (ao V T x) h
 obtain⟨ys,vs,Z,h,_,ry⟩:=mj (ao V T y) h
 unfold eqsX at h
 split at h
 ·rename_i r hr
  obtain⟨h1,l1,l2⟩:=eqK_of_AV ks xs ys us.toList vs.toList r rx ry hr
  refine bP h (λw'=>?_)
  have D:P.stoodInHeld t=false/\∃E,eP (du P 7) fs.toList 0=some E/\E=ks:=by
   simp only[du,O]at F
   split at F
   ·cases F
   rename_i D
   split at F
   ·rename_i E J
    split at F
    ·cases F;exact⟨by simpa using D,_,J,rfl⟩
    ·cases F
   ·cases F
  obtain⟨D,E,J,rfl⟩:=D
  have ht:P.underlying t=some (.struct (P.fieldsOf t)):=by simp[Program.fieldsOf,O]
  have N:P.fieldsOf t=fs:=by simp[Program.fieldsOf,O]
  have I:(Op.equalIn 10000 t (.agg us) (.agg vs)).run P w'= .ok r w':=by
   rw[run_equalIn_struct w' 9999 t _ _ ht D,N]
   exact dJ (flatOk P 7) fs.toList 0 E J 9998 us vs r (by omega) (by simp at l1;omega) (by simp at l2;omega) (by simpa using h1) w'
  cases neg with
  |true=>
   simp only[if_true]at M
   simp only[execOp,M,Y,Z,Sem.run_bind,run_eqGuard_agg w' _ t x y us vs X,Result.andThen_ok,run_neq_struct w' t us vs,I]
   rfl
  |false=>
   simp only[Bool.false_eq_true,if_false]at M
   simp only[execOp,M,Y,Z,Sem.run_bind,run_eqGuard_agg w' _ t x y us vs X,Result.andThen_ok,run_eql_struct w' t us vs,I]
   rfl
 ·exact h.elim
end
section
variable {G:Glob} {P:Program} {τ:Store} {w:World} {env:Env} {a:Act} {o:Oper} {K:AV->Prop}
theorem lj {op:BinOp} {t:TypeId} {x y:Operand} {ad:Option Addr} {n c:Nat} {v:Value} (w':World):(eqGuard op t x y (.slice ad n c) v).run P w'= .ok () w':=
 bH rfl (λe=>by cases e) w'
theorem mZ {op:BinOp} {t:TypeId} {x y:Operand} {r:Option Nat} {v:Value} (w':World):(eqGuard op t x y (.map r) v).run P w'= .ok () w':=
 bH rfl (λe=>by cases e) w'
theorem nY {op:BinOp} {t:TypeId} {x y:Operand} {r:Option Addr} {v:Value} (w':World):(eqGuard op t x y (.pointer r) v).run P w'= .ok () w':=
 bH rfl (λe=>by cases e) w'
theorem mN {op:BinOp} {t:TypeId} {x y:Operand} {f:Fn} {xs ys:Array Value} {v:Value} (w':World):(eqGuard op t x y (.func f xs ys) v).run P w'= .ok () w':=
 bH rfl (λe=>by cases e) w'
theorem nf {op:BinOp} {t:TypeId} {x y:Operand} {v:Value} (w':World):(eqGuard op t x y .nilFunc v).run P w'= .ok () w':=
 bH rfl (λe=>by cases e) w'
theorem oV {t e:TypeId} (D:P.underlying t=some (.slice e)) (d:Nat) (ad:Option Addr) (n c:Nat) (w':World):(Op.equalIn (d+1) t (.slice ad n c) (.slice none 0 0)).run P w'= .ok ad.isNone w':=by
 cases ad<;>simp[Op.equalIn,run_underlying D]
theorem eqIn_map {t k e:TypeId} (D:P.underlying t=some (.map k e)) (d:Nat) (r:Option Nat) (w':World):(Op.equalIn (d+1) t (.map r) (.map none)).run P w'= .ok r.isNone w':=by
 cases r<;>simp[Op.equalIn,run_underlying D]
theorem eqIn_ptr {t e:TypeId} (D:P.underlying t=some (.pointer e)) (d:Nat) (r:Option Addr) (w':World):(Op.equalIn (d+1) t (.pointer r) (.pointer none)).run P w'= .ok r.isNone w':=by
 cases r<;>simp[Op.equalIn,run_underlying D]
theorem eqIn_nof {t:TypeId} {ps E:Array TypeId} {F:Bool} (D:P.underlying t=some (.func ps E F)) (d:Nat) (w':World):(Op.equalIn (d+1) t .nilFunc .nilFunc).run P w'= .ok true w':=by
 simp[Op.equalIn,run_underlying D]
theorem eqIn_func {t:TypeId} {ps E:Array TypeId} {F:Bool} (D:P.underlying t=some (.func ps E F)) (d:Nat) (f:Fn) (xs ys:Array Value) (w':World):(Op.equalIn (d+1) t (.func f xs ys) .nilFunc).run P w'= .ok false w':=by
 simp[Op.equalIn,run_underlying D]
theorem kZ {t:TypeId} {u v:Value} {b:Bool} (h:∀d w',(Op.equalIn (d+1) t u v).run P w'= .ok b w') (D:∀op,op= .eql\/op= .neq->binOp op t u v=(if op= .eql then (do pure (.bool (←Op.equal t u v)))else (do pure (.bool (!(←Op.equal t u v)))))) (w':World):
  (binOp .eql t u v).run P w'= .ok (.bool b) w'/\(binOp .neq t u v).run P w'= .ok (.bool (!b)) w':=by
 rw[D .eql (.inl rfl),D .neq (.inr rfl)]
 simp[Op.equal,Op.maxDepth,h 9999]
theorem fi {t u:TypeId} {neg b:Bool} {x y:Operand} {D E:Value} (F:o.op= .binOp (if neg then .neq else .eql) t x y u) (N:a.eval x=D) (O:a.eval y=E)
  (J:∀op w',(eqGuard op t x y D E).run P w'= .ok () w') (M:∀d w',(Op.equalIn (d+1) t D E).run P w'= .ok b w')
  (I:∀op,op= .eql\/op= .neq->binOp op t D E=(if op= .eql then (do pure (.bool (←Op.equal t D E)))else (do pure (.bool (!(←Op.equal t D E)))))) (V:K (.bool (if neg then !b else b))):QOk P τ w o a K:=by
 refine bP V (λw'=>?_)
 have T:=(kZ M I w').1
 have X:=(kZ M I w').2
 cases neg with
 |true=>
  simp only[if_true]at F
  simp only[execOp,F,N,O,Sem.run_bind,J,Result.andThen_ok,X]
  rfl
 |false=>
  simp only[Bool.false_eq_true,if_false]at F
  simp only[execOp,F,N,O,Sem.run_bind,J,Result.andThen_ok,T]
  rfl
theorem q_eqnil {t u:TypeId} {neg:Bool} {x y:Operand} {d:TypeDesc} {k:Nat} (M:o.op= .binOp (if neg then .neq else .eql) t x y u) (N:P.underlying t=some d) (F:mG d y=some k)
  (Z:Sat G τ w) (Y:∀j,Rep τ w (env.get j) (a.tmps.getD j undef)) (h:ia k neg ((SOpd.of x).eval G env) K):QOk P τ w o a K:=by
 have D:=ao (G:=G) Z Y x
 unfold mG at F
 split at F
 ·cases F
  rename_i e
  have J:a.eval (.const (.slice none 0 0))= .slice none 0 0:=rfl
  have O:∀(ad:Option Addr) (n c:Nat),a.eval x= .slice ad n c->K (.bool (if neg then ad.isSome else ad.isNone))->QOk P τ w o a K:=by
   intro ad n c V T
   refine fi (b:=ad.isNone) M V J (λ_ w'=>lj w') (λd w'=>oV N d ad n c w') (λop h=>by rcases h with rfl|rfl<;>rfl) ?_
   ·cases ad<;>simpa using T
  unfold ia at h
  split at h<;>first
   |exact h.elim
   |skip
  all_goals(rename_i E I;first|(exact absurd E (by decide))|skip)
  ·rw[I]at D;simp only[Rep]at D;exact O none 0 0 D (by cases neg<;>simpa using h)
  ·rename_i sz rows
   rw[I]at D;simp only[Rep]at D
   rcases D with⟨D,hr⟩|⟨ad,cap,D,_⟩
   ·exact O none 0 0 D (by have:=h (!neg) (λhn=>absurd hr hn);cases neg<;>simpa using this)
   ·exact O (some ad) _ _ D (by have:=h neg (λ_=>rfl);cases neg<;>simpa using this)
  ·rename_i g e2 sz rows
   rw[I]at D
   cases g with
   |none=>simp only[Rep]at D;exact O none 0 0 D.1 (by cases neg<;>simpa using h)
   |some b=>simp only[Rep]at D;obtain⟨cap,D,_⟩:=D;exact O (some _) _ _ D (by cases neg<;>simpa using h)
 ·cases F
  have J:a.eval (.const (.map none))= .map none:=rfl
  unfold ia at h
  split at h<;>first
   |exact h.elim
   |skip
  all_goals(rename_i E I;first|(exact absurd E (by decide))|skip)
  rename_i r
  rw[I]at D;simp only[Rep]at D
  refine fi (b:=r.isNone) M D J (λ_ w'=>mZ w') (λd w'=>eqIn_map N d r w') (λop h=>by rcases h with rfl|rfl<;>rfl) ?_
  ·cases r<;>simpa using h
 ·cases F
  have J:a.eval (.const .nilFunc)= .nilFunc:=rfl
  unfold ia at h
  split at h<;>first
   |exact h.elim
   |skip
  all_goals(rename_i E I;first|(exact absurd E (by decide))|skip)
  ·rw[I]at D;simp only[Rep]at D
   refine fi (b:=true) M D J (λ_ w'=>nf w') (λd w'=>eqIn_nof N d w') (λop h=>by rcases h with rfl|rfl<;>rfl) ?_
   ·cases neg<;>simpa using h
  ·rename_i f fs cs
   rw[I]at D;simp only[Rep]at D
   refine fi (b:=false) M D J (λ_ w'=>mN w') (λd w'=>eqIn_func N d f fs cs w') (λop h=>by rcases h with rfl|rfl<;>rfl) ?_
   ·cases neg<;>simpa using h
 ·cases F
  have J:a.eval (.const (.pointer none))= .pointer none:=rfl
  have X:∀(r:Option Addr),a.eval x= .pointer r->K (.bool (if neg then r.isSome else r.isNone))->QOk P τ w o a K:=by
   intro r V T
   refine fi (b:=r.isNone) M V J (λ_ w'=>nY w') (λd w'=>eqIn_ptr N d r w') (λop h=>by rcases h with rfl|rfl<;>rfl) ?_
   ·cases r<;>simpa using T
  unfold ia at h
  split at h<;>first
   |exact h.elim
   |skip
  all_goals(rename_i E I;first|(exact absurd E (by decide))|skip)
  ·rename_i r
   rw[I]at D;simp only[Rep]at D
   exact X r D (by cases neg<;>simpa using h)
  ·rename_i cs
   rw[I]at D;simp only[Rep]at D
   obtain⟨ad,D,_⟩:=D
   exact X (some ad) D (by cases neg<;>simpa using h)
 ·cases F
theorem mq {env:Env} (F:Sat G τ w) (E:∀j,Rep τ w (env.get j) (a.tmps.getD j undef)):∀(xs:List Operand) (KV:List Value->Prop),scsX G env (xs.map SOpd.of) KV->KV (xs.map a.eval)
 |[],KV,h=>h
 |x::xs,KV,h=>by
  simp only[map_cons,scsX,scX]at h
  have D:=ao (G:=G) F E x
  split at h
  ·rename_i v I
   rw[I]at D
   simp only[Rep]at D
   have:=mq F E xs _ h
   rw[map_cons,D]
   exact this
  ·exact h.elim
theorem q_mkfun {fn:Fn} {first cap:Array Operand} (N:o.op= .makeFunc fn first cap) (E:Sat G τ w) (D:∀j,Rep τ w (env.get j) (a.tmps.getD j undef))
  (h:scsX G env (first.toList.map SOpd.of) λvs=>scsX G env (cap.toList.map SOpd.of) λus=>K (.sc (.func fn vs.toArray us.toArray))):QOk P τ w o a K:=by
 have J:=mq E D _ _ h
 have M:=mq E D _ _ J
 refine⟨_,.func fn (first.toList.map a.eval).toArray (cap.toList.map a.eval).toArray,M,by simp only[Rep],λw' _=>?_⟩
 have F:first.map a.eval=(first.toList.map a.eval).toArray:=by apply Array.ext';simp
 have I:cap.map a.eval=(cap.toList.map a.eval).toArray:=by apply Array.ext';simp
 simp only[execOp,N,Instr.makeFunc,F,I]
 rfl
theorem dg {op:Op} {N:SOp} {σ ρ:Store} (J:o.op=op) (D:bQ P op=some N) (ah:τ=σ++ρ) (I:Sat G τ w) (F:∀j,Rep τ w (env.get j) (a.tmps.getD j undef)) (h:aq G N env σ K):QOk P τ w o a K:=by
 cases op with
 |move x=>cases D;exact q_mov (.inl J) I F h
 |assign x=>cases D;exact q_mov (.inr J) I F h
 |pick c x y=>cases D;exact q_pick J I F h
 |nilCheck x=>cases D;exact pi J I F h
 |load t x=>
  have D:da P t x=some N:=D
  unfold da at D
  split at D
  ·rename_i d n E M
   split at D
   ·rename_i Z;cases D;exact q_load J E M Z ah I F h
   ·cases D
  ·cases D
 |makeInterface t x=>
  have D:fj P t x=some N:=D
  unfold fj at D
  split at D
  ·cases D
  ·rename_i d O E
   cases D
   exact q_mkI J E O I F h
  ·cases D
 |build t parts=>
  have D:dA P t parts=some N:=D
  unfold dA at D
  split at D
  ·rename_i fs z E hz
   split at D
   ·cases D
   rename_i ac
   obtain⟨sp,hm,rfl⟩:=Option.map_eq_some_iff.1 D
   exact q_build J E hz (by simpa only[Bool.not_eq_true',Bool.not_eq_false]using ac) hm I F h
  ·cases D
 |fieldAddr t x i=>
  have D:bM P t x i=some N:=D
  unfold bM at D
  split at D
  ·rename_i fs E
   split at D
   ·rename_i f V
    split at D
    ·rename_i n M;cases D;exact q_fieldA J E V M I F h
    ·cases D
   ·cases D
  ·cases D
 |indexAddr t x i=>
  have D:cY P t x i=some N:=D
  unfold cY at D
  split at D
  ·rename_i e E
   obtain⟨n,M,rfl⟩:=Option.map_eq_some_iff.1 D
   exact q_indexA J E M I F h
  ·rename_i len e E
   obtain⟨n,M,rfl⟩:=Option.map_eq_some_iff.1 D
   exact q_indexP J E M I F h
  ·cases D
 |index t x i=>
  have D:dw P t x i=some N:=D
  unfold dw at D
  split at D
  ·rename_i E;cases D;exact q_index J E I F h
  ·cases D
 |slice t x lo hi mx=>
  cases mx with
  |some m=>cases D
  |none=>
   have D:dz P t x lo hi=some N:=D
   unfold dz at D
   split at D
   ·rename_i e E
    obtain⟨n,M,rfl⟩:=Option.map_eq_some_iff.1 D
    exact q_slice J E M I F h
   ·rename_i E;cases D;exact q_sliceS J E I F h
   ·cases D
 |field t x i=>
  have D:dE P t x i=some N:=D
  unfold dE at D
  split at D
  ·rename_i fs E
   split at D
   ·rename_i f V
    split at D
    ·rename_i d n O M
     split at D
     ·rename_i Z;cases D;exact q_field J E V O M Z I F h
     ·cases D
    ·cases D
   ·cases D
  ·cases D
 |extract x i=>cases D;exact q_extract J I F h
 |binOp op t x y u=>
  have D:eY P op t x y=some N:=D
  have neg:∀{n:Bool},eqNeg op=some n->op=(if n then .neq else .eql):=by
   intro n M;cases op<;>cases M<;>rfl
  unfold eY at D
  split at D
  ·split at D
   ·rename_i T;cases D;exact q_bin J (by cases op<;>first|(cases T;done)|simp) I F h
   ·cases D
  ·split at D
   ·rename_i T;cases D;exact q_bin J (by cases op<;>first|(cases T;done)|simp) I F h
   ·cases D
  ·rename_i E
   obtain⟨n,M,rfl⟩:=Option.map_eq_some_iff.1 D
   exact q_eqb (neg:=n) (by rw[J,neg M]) E I F h
  ·rename_i fs E
   split at D
   ·rename_i ks V
    split at D
    ·cases D
    rename_i hg
    obtain⟨n,M,rfl⟩:=Option.map_eq_some_iff.1 D
    exact q_eqs (neg:=n) (by rw[J,neg M]) E V (by simpa using hg) I F h
   ·cases D
  ·rename_i d E
   split at D
   ·rename_i k hk
    obtain⟨n,M,rfl⟩:=Option.map_eq_some_iff.1 D
    exact q_eqnil (neg:=n) (by rw[J,neg M]) E hk I F h
   ·cases D
  ·cases D
 |unOp op t x=>
  cases op<;>first
   |(cases D;done)
   |(cases D;exact q_not J I F h)
 |convert s d x=>
  have D:ee P s d x=some N:=D
  unfold ee at D
  split at D
  ·rename_i j k hs O;cases D;exact q_conv J hs O I F h
  ·rename_i hs O;cases D;exact q_str J hs O I F h
  ·cases D
 |makeFunc fn first cap=>cases D;exact q_mkfun J I F h
 |alloc e=>
  have D:(cK P e).map (.alloc e ·)=some N:=D
  obtain⟨n,M,rfl⟩:=Option.map_eq_some_iff.1 D;exact h.elim
 |box e x=>
  have D:(bj P e).map (.box e · (SOpd.of x))=some N:=D
  obtain⟨n,M,rfl⟩:=Option.map_eq_some_iff.1 D;exact h.elim
 |store t x y=>
  have D:(bj P t).map (.store · (SOpd.of x) (SOpd.of y))=some N:=D
  obtain⟨n,M,rfl⟩:=Option.map_eq_some_iff.1 D;exact h.elim
 |buildSlice t len parts=>
  have D:cZ P t len parts=some N:=D
  unfold cZ at D
  split at D
  ·split at D
   ·split at D
    ·cases D;exact h.elim
    ·cases D
   ·cases D
  ·cases D
 |call c=>
  obtain⟨callee,args,argTypes⟩:=c
  cases callee with
  |invoke r m=>cases D;exact h.elim
  |value f=>cases D;exact h.elim
  |builtin b=>
   have D:bC P b args.toList argTypes.toList=some N:=D
   unfold bC at D
   split at D
   ·rename_i x t e1 e2 _e3
    have X:args=#[x]:=by apply Array.ext';simpa using e1
    have Y:argTypes=#[t]:=by apply Array.ext';simpa using e2
    subst X Y
    split at D
    ·rename_i E;cases D;exact q_lenS J E I F h
    ·rename_i e E;cases D;exact q_len J E I F h
    ·cases D
   ·split at D
    ·split at D
     ·split at D
      ·cases D;exact h.elim
      ·cases D
     ·cases D
    ·cases D
   ·cases D
 |_=>cases D
end
theorem ObjSat.keep {σ σ' ρ:Store} {w w':World} (J:Ev σ w σ' w') {b:Nat} {x:AObj} (I:w'.heap[b]? =w.heap[b]?) (h:ObjSat (σ++ρ) w b x):ObjSat (σ'++ρ) w' b x:=by
 cases x with
 |cells e cs=>
  obtain⟨vs,D,E,F⟩:=h
  exact⟨vs,I.trans D,E,RepL.ev J _ _ F⟩
 |tok e k=>
  obtain⟨vs,D,E⟩:=h
  exact⟨vs,I.trans D,E⟩
 |map es=>
  obtain⟨ents,c,D,E,F⟩:=h
  exact⟨ents,c,I.trans D,E,RepL.ev J _ _ F⟩
theorem Sat.lt_left {G:Glob} {σ ρ:Store} {w:World} (h:Sat G (σ++ρ) w) {b:Nat} (D:b∈σ.keys):b<w.heap.size:=
 h.key_lt (by rw[az];exact mem_append.2 (.inl D))
theorem Sat.nodup_left {G:Glob} {σ ρ:Store} {w:World} (h:Sat G (σ++ρ) w):σ.keys.Nodup:=by
 have:=h.nodup
 rw[az]at this
 exact(nodup_append.1 this).1
theorem Sat.alloc {G:Glob} {σ ρ:Store} {w:World} (h:Sat G (σ++ρ) w) (o:Obj) (x:AObj)
  (J:ObjSat (((w.heap.size,x)::σ)++ρ) (w.alloc o) w.heap.size x):Sat G (((w.heap.size,x)::σ)++ρ) (w.alloc o):=by
 refine h.step (Ev.alloc o x) ?_ ?_ ?_
 ·simp only[Store.keys,map_cons,nodup_cons]
  exact⟨λI=>Nat.lt_irrefl _ (h.lt_left I),h.nodup_left⟩
 ·intro b D
  simp only[Store.keys,map_cons,mem_cons]at D
  rcases D with rfl|D
  ·exact .inr (Nat.le_refl _)
  ·exact .inl D
 ·intro b y E
  rcases mem_cons.1 E with e|E
  ·cases e;exact J
  ·have F:=h.obj b y (mem_append.2 (.inl E))
   exact F.keep (Ev.alloc o x) (Below.heap_alloc w o b F.lt)
theorem ar.flat {τ:Store} {w:World} {a:Addr} {sz:Nat}:∀{i:Nat} {rows:List (List AV)},ar τ w a sz i rows->RepAt τ w a (i*sz) rows.flatten/\rows.flatten.length=rows.length*sz/\∀r∈rows,r.length=sz
 |i,[],_=>by simp[RepAt]
 |i,r::rs,h=>by
  simp only[ar]at h
  obtain⟨E,M,N⟩:=h
  obtain⟨k1,O,T⟩:=ar.flat N
  refine⟨RepAt.of_get λj J=>?_,?_,?_⟩
  ·simp only[flatten_cons]at J ⊢
   by_cases D:j<r.length
   ·rw[getElem_append_left D];exact M.get j D
   ·have F:j-r.length<rs.flatten.length:=by rw[length_append]at J;omega
    rw[getElem_append_right (by omega)]
    have:=k1.get (j-r.length) F
    rw[show(i+1)*sz+(j-r.length)=i*sz+j by rw[Nat.add_mul,E];omega]at this
    exact this
  ·simp[E,O,Nat.add_mul,Nat.add_comm]
  ·intro q I
   rcases mem_cons.1 I with rfl|I
   ·exact E
   ·exact T q I
theorem ar.of_flat {τ:Store} {w:World} {a:Addr} {sz:Nat}:∀{i:Nat} {rows:List (List AV)},(∀r∈rows,r.length=sz)->RepAt τ w a (i*sz) rows.flatten->ar τ w a sz i rows
 |i,[],_,_=>by simp only[ar]
 |i,r::rs,hl,h=>by
  simp only[ar]
  have D:=hl r (by simp)
  simp only[flatten_cons]at h
  refine⟨D,?_,ar.of_flat (λq E=>hl q (mem_cons_of_mem _ E)) ?_⟩
  ·have:=h.take r.length
   simpa using this
  ·refine RepAt.of_get λj F=>?_
   have:=h.get (r.length+j) (by rw[length_append];omega)
   rw[getElem_append_right (by omega)]at this
   simp only[Nat.add_sub_cancel_left]at this
   rw[show(i+1)*sz+j=i*sz+(r.length+j)by rw[Nat.add_mul,D];omega]
   exact this
section
variable {G:Glob} {P:Program} {σ ρ:Store} {w:World} {env:Env} {a:Act} {o:Oper}
def Goes (G:Glob) (σ ρ:Store) (w:World) (a:Act) (o:Oper) (K:AV->Store->Prop) (next:Act->World->Prop):Prop:=
 ∀v r σ' w',K r σ'->Sat G (σ'++ρ) w'->Ev σ w σ' w'->Rep (σ'++ρ) w' r v->next (a.put o.dst v) w'
variable {K:AV->Store->Prop} {next:Act->World->Prop} {Q:Exit->Act->World->Prop}
theorem bF {v:Value} {w':World} (D:(execOp a.eval o).run P w= .ok (.value v) w') (h:next (a.put o.dst v) w'):o.wp P a w next Q:=by
 unfold Oper.wp
 rw[D]
 exact h
theorem eB {w':World} (D:(execOp a.eval o).run P w= .ok .skip w') (h:next (a.put o.dst undef) w'):o.wp P a w next Q:=by
 unfold Oper.wp
 rw[D]
 exact h
theorem e_quiet {op:Op} {F:SOp} (N:o.op=op) (T:bQ P op=some F) (E:Sat G (σ++ρ) w) (I:∀j,Rep (σ++ρ) w (env.get j) (a.tmps.getD j undef)) (h:aq G F env σ λr=>K r σ)
  (M:Goes G σ ρ w a o K next):o.wp P a w next Q:=by
 obtain⟨r,u,J,O,D⟩:=dg N T rfl E I h
 exact bF (D w (λ_=>Same.refl w)) (M u r σ w J E (Ev.refl σ w) O)
theorem fk (D:Sat G (σ++ρ) w):w.heap.size∉σ.keys:=λh=>Nat.lt_irrefl _ (D.lt_left h)
theorem e_alloc {e:TypeId} {z:List AV} (V:o.op= .alloc e) (N:cK P e=some z) (J:Sat G (σ++ρ) w)
  (h:newX σ λb=>K (.sc (.pointer (some ⟨b,0,none⟩))) ((b,.cells e z)::σ)) (T:Goes G σ ρ w a o K next):o.wp P a w next Q:=by
 obtain⟨i,v,hi,M,_,O⟩:=cG (τ:=σ++ρ) (w:=w) N
 have E:(execOp a.eval o).run P w= .ok (.value (.pointer (some ⟨w.heap.size,0,none⟩))) (w.alloc (.cells v.cells e)):=by
  simp[execOp,V,Instr.alloc,zeroValue,typeInfo,hi,M,newVar,newRow]
 refine bF E (T _ _ _ _ (h _ (fk J)) (J.alloc _ _ ?_) (Ev.alloc _ _) (by simp only[Rep]))
 obtain⟨X,Y,D,F,I,_⟩:=cG (τ:=((w.heap.size,.cells e z)::σ)++ρ) (w:=w.alloc (.cells v.cells e)) N
 rw[hi]at D;cases D
 rw[M]at F;cases F
 exact⟨v.cells,heap_alloc_new w _,O,I⟩
theorem mR {e:TypeId} {n:Nat} {x:Operand} (ho:o.op= .box e x) (F:Sat G (σ++ρ) w) (X:∀j,Rep (σ++ρ) w (env.get j) (a.tmps.getD j undef))
  (h:bU ((SOpd.of x).eval G env) λc=>c.length=n/\K (.ref c) σ) (hn:Goes G σ ρ w a o K next):o.wp P a w next Q:=by
 unfold bU at h
 split at h
 ·rename_i c Z
  obtain⟨r1,r2⟩:=gA Z (ao F X x)
  have N:(execOp a.eval o).run P w= .ok (.value (.pointer (some ⟨w.heap.size,0,none⟩))) (w.alloc (.cells (a.eval x).cells e)):=by
   simp[execOp,ho,Instr.box,newVar,newRow]
  have D:Ev σ w σ (w.alloc (.cells (a.eval x).cells e)):=Ev.alloc0 _
  have J:∀b y,(b,y)∈σ++ρ->b<w.heap.size:=λb y E=>(F.obj b y E).lt
  have O:Sat G (σ++ρ) (w.alloc (.cells (a.eval x).cells e)):=
   F.step D F.nodup_left (λb Y=>.inl Y) (λb y E=>(F.obj b y (mem_append.2 (.inl E))).keep D (Below.heap_alloc _ _ b (J b y (mem_append.2 (.inl E)))))
  refine bF N (hn _ _ _ _ h.2 O D ?_)
  have T:=RepL.ev D _ _ r1
  have l1:=r1.length
  simp only[Rep]
  refine⟨_,rfl,RepAt.of_get λj V=>?_⟩
  have I:j<(a.eval x).cells.toList.length:=by rw[l1];exact V
  refine⟨(a.eval x).cells.toList[j],⟨?_,?_⟩,r2 _ (getElem_mem _),T.get j V I⟩
  ·have M:=heap_alloc_new w (.cells (a.eval x).cells e)
   rw[add_lit]
   simp only[World.cell?,M,Nat.zero_add]
   simp at I ⊢
  ·rintro⟨y,E,_⟩
   rw[rL]at E
   exact Nat.lt_irrefl _ (J _ _ E)
 ·exact h.elim
theorem e_box {e:TypeId} {n:Nat} {x:Operand} (M:o.op= .box e x) (E:Sat G (σ++ρ) w) (F:∀j,Rep (σ++ρ) w (env.get j) (a.tmps.getD j undef))
  (h:bU ((SOpd.of x).eval G env) λc=>c.length=n/\newX σ λb=>K (.sc (.pointer (some ⟨b,0,none⟩))) ((b,.cells e c)::σ)) (J:Goes G σ ρ w a o K next):o.wp P a w next Q:=by
 unfold bU at h
 split at h
 ·rename_i c I
  obtain⟨r1,r2⟩:=gA I (ao E F x)
  have D:(execOp a.eval o).run P w= .ok (.value (.pointer (some ⟨w.heap.size,0,none⟩))) (w.alloc (.cells (a.eval x).cells e)):=by
   simp[execOp,M,Instr.box,newVar,newRow]
  refine bF D (J _ _ _ _ (h.2 _ (fk E)) (E.alloc _ _ ?_) (Ev.alloc _ _) (by simp only[Rep]))
  exact⟨_,heap_alloc_new w _,r2,RepL.ev (Ev.alloc _ _) _ _ r1⟩
 ·exact h.elim
theorem Ev.setRow {b:Nat} {e:TypeId} {cs cs':List AV} {vs new:Array Value} (N:(b,AObj.cells e cs)∈σ) (T:w.heap[b]? =some (.cells vs e (0,0))) (Y:new.size=vs.size):
  Ev σ w (σ.set b (.cells e cs')) (w.setRow b new):=by
 have E:∀{σ:Store} (k:Nat) (y:AObj),(k,y)∈σ.set b (.cells e cs')->(k,y)∈σ\/(k=b/\y= .cells e cs'):=by
  intro σ
  induction σ with
  |nil=>intro k y h;simp[Store.set]at h
  |cons p s ih=>
   intro k y h
   obtain⟨k0,x0⟩:=p
   simp only[Store.set]at h
   split at h
   ·rename_i F
    rcases mem_cons.1 h with h|h
    ·cases h;exact .inr ⟨F,rfl⟩
    ·exact .inl (mem_cons_of_mem _ h)
   ·rcases mem_cons.1 h with h|h
    ·cases h;exact .inl (by simp)
    ·rcases ih k y h with h|h
     ·exact .inl (mem_cons_of_mem _ h)
     ·exact .inr h
 have I:∀k,k∈(σ.set b (.cells e cs')).keys->k∈σ.keys:=by
  intro k F
  obtain⟨p,X,rfl⟩:=mem_map.1 F
  rcases E p.1 p.2 X with h|⟨h,_⟩
  ·exact mem_map.2 ⟨p,h,rfl⟩
  ·rw[h];exact mem_map.2 ⟨_,N,rfl⟩
 refine⟨rfl,rfl,rfl,by simp,λk F V=>⟨setRow_other w b k new (λe=>V (by rw[e];exact mem_map.2 ⟨_,N,rfl⟩)),λh=>V (I k h)⟩,?_,?_⟩
 ·intro k s D
  unfold World.shape? at*
  by_cases F:k=b
  ·subst F
   rw[setRow_heap w k vs new e (0,0) T]
   rw[T]at D
   simp at D ⊢
   rw[Y];exact D
  ·rw[setRow_other w b k new F];exact D
 ·intro ad v Z J
  have M:ad.block≠b:=λh=>J ⟨AObj.cells e cs,by rw[h];exact N,trivial⟩
  refine⟨by rw[World.cell?_of_block (w:=w) (setRow_other w b ad.block new M)];exact Z,?_⟩
  rintro⟨y,hy,O⟩
  rcases E _ _ hy with h|⟨h,_⟩
  ·exact J ⟨y,h,O⟩
  ·exact M h
theorem dk (b:Nat) (y:AObj):∀σ:Store,(σ.set b y).keys=σ.keys
 |[]=>rfl
 |(k,x)::s=>by
  simp only[Store.set]
  split
  ·simp[Store.keys]
  ·have:=dk b y s
   simp only[Store.keys,map_cons]at*
   rw[this]
theorem jH {b k:Nat} {y z:AObj}:∀{σ:Store},(k,z)∈σ.set b y->σ.keys.Nodup->(k=b/\z=y)\/(k≠b/\(k,z)∈σ)
 |[],h,_=>by simp[Store.set]at h
 |(k0,x0)::s,h,hn=>by
  simp only[Store.keys,map_cons,nodup_cons]at hn
  simp only[Store.set]at h
  split at h
  ·rename_i D
   subst D
   rcases mem_cons.1 h with h|h
   ·cases h;exact .inl ⟨rfl,rfl⟩
   ·exact .inr ⟨λe=>hn.1 (mem_map.2 ⟨_,h,e⟩),mem_cons_of_mem _ h⟩
  ·rename_i D
   rcases mem_cons.1 h with h|h
   ·cases h;exact .inr ⟨D,by simp⟩
   ·rcases jH h hn.2 with h|⟨E,F⟩
    ·exact .inl h
    ·exact .inr ⟨E,mem_cons_of_mem _ F⟩
theorem e_store {t:TypeId} {n:Nat} {x y:Operand} (ho:o.op= .store t x y) (ac:bj P t=some n) (I:Sat G (σ++ρ) w) (hE:∀j,Rep (σ++ρ) w (env.get j) (a.tmps.getD j undef))
  (h:ptrX ((SOpd.of x).eval G env) λb off=>gJ (σ.get b) λe cs=>bU ((SOpd.of y).eval G env) λc=>
   c.length=n/\off+n<=cs.length/\K aC (σ.set b (.cells e (aH cs off c)))) (hn:Goes G σ ρ w a o K next):o.wp P a w next Q:=by
 have hx:=ao (G:=G) I hE x
 have hy:=ao (G:=G) I hE y
 unfold ptrX at h
 split at h
 ·rename_i b off he
  rw[he]at hx
  simp only[Rep]at hx
  unfold gJ at h
  split at h
  ·rename_i e cs hg
   have hm:=Store.get_mem hg
   obtain⟨vs,V,h1,hr⟩:=I.obj b _ (mem_append.2 (.inl hm))
   unfold bU at h
   split at h
   ·rename_i c hc
    obtain⟨T,ah,X⟩:=h
    obtain⟨r1,r2⟩:=gA hc hy
    have l1:=hr.length
    have O:=r1.length
    have N:=run_storeCells_at P b off e (a.eval y).cells.toList 0 vs w V (by simp at l1 O ⊢;omega) r2
    simp only[Nat.add_zero]at N
    let new:Array Value:=(vs.toList.take off++(a.eval y).cells.toList++vs.toList.drop (off+(a.eval y).cells.toList.length)).toArray
    have F:new.size=vs.size:=by simp[new]at l1 O ⊢;omega
    have M:(execOp a.eval o).run P w= .ok .skip (w.setRow b new):=by
     have Z:(storeVar t ⟨b,off,none⟩ (a.eval y)).run P w= .ok () (w.setRow b new):=by
      unfold storeVar
      have:(a.eval y).cells.size=n:=by simp at O;omega
      simp[bv ac,this]
      simpa[new]using N
     simp[execOp,ho,Instr.storeAt,hx,Instr.sureAddr,Z]
    have D:Ev σ w (σ.set b (.cells e (aH cs off c))) (w.setRow b new):=Ev.setRow hm V F
    refine eB M (hn _ _ _ _ X ?_ D (by simp only[aC,Rep];exact⟨#[],rfl,by simp[RepL]⟩))
    have J:=I.nodup_left
    refine I.step D (by rw[dk];exact J) (λk X=>.inl (by rwa [dk]at X)) ?_
    intro k z hz
    rcases jH hz J with⟨rfl,rfl⟩|⟨Y,hz⟩
    ·refine⟨new,setRow_heap w k vs new e (0,0) V,?_,?_⟩
     ·intro v E
      simp only[new,mem_append]at E
      rcases E with(E|E)|E
      ·exact h1 v (mem_of_mem_take E)
      ·exact r2 v E
      ·exact h1 v (mem_of_mem_drop E)
     ·have q1:=RepL.ev D _ _ hr
      have q2:=RepL.ev D _ _ r1
      rw[←O]at T
      have e1:=aY cs off c (by omega)
      generalize (σ.set k (.cells e (aH cs off c))++ρ:Store)=τ' at*
      generalize w.setRow k new=w2 at*
      rw[e1]
      simp only[new]
      rw[O]
      exact RepL.append (RepL.append (RepL.take _ q1) q2) (RepL.drop _ q1)
    ·exact(I.obj k z (mem_append.2 (.inl hz))).keep D (setRow_other w b k new Y)
   ·exact h.elim
  ·exact h.elim
 ·exact h.elim
end
end Go.Av
