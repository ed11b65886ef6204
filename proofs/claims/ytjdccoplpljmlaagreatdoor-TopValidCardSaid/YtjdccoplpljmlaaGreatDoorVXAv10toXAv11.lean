/-
  ABSTRACT VALUES, 10: comparisons, fields, function values; then all quiet operations in one.
-/
import Derived.Test.YtjdccoplpljmlaaGreatDoorVXAv9
import Derived.WalkLawsBesides
namespace Go.Av
open Go Go.RowKit List
set_option linter.unusedSimpArgs false
set_option linter.unusedVariables false
section
variable {G:Glob} {P:Program} {τ:Store} {w:World} {env:Env} {a:Act} {o:Oper} {K:AV->Prop}
theorem im {k:IntKind} {n:Int} (E:K (.int k n)) (h:∀w',(execOp a.eval o).run P w'= .ok (.value (.int k n)) w'):QOk P τ w o a K:=⟨_,_,E,by simp only[Rep],λw' _=>h w'⟩
theorem bK {b:Bool} (E:K (.bool b)) (h:∀w',(execOp a.eval o).run P w'= .ok (.value (.bool b)) w'):QOk P τ w o a K:=⟨_,_,E,by simp only[Rep],λw' _=>h w'⟩
theorem qok_str {s:List UInt8} (E:K (.str s)) (h:∀w',(execOp a.eval o).run P w'= .ok (.value (.string ⟨⟨s⟩⟩)) w'):QOk P τ w o a K:=⟨_,_,E,by simp only[Rep],λw' _=>h w'⟩
theorem fF {t:TypeId} {d:TypeDesc} {n:Nat} (N:P.underlying t=some d) (M:aZ P t=some n) (cs:Array Value) (off:Nat) (F:(aggD d||n==1)=true) (J:off+n<=cs.size) (w':World):
  (part t cs off).run P w'= .ok (if aggD d then .agg (cs.extract off (off+n))else (cs.toList.drop off).headD undef) w':=by
 unfold part
 rw[Sem.run_bind,cq N]
 cases I:aggD d with
 |true=>simp[ba M]
 |false=>
  simp[I]at F
  have E:off<cs.size:=by omega
  simp[E]
theorem mO {x:AV} {u:Value} {KL:List AV->Prop} (E:Rep τ w x u) (h:aggX x KL):∃cs vs,u= .agg vs/\KL cs/\(∀v∈vs.toList,v.oneCell'=true)/\RepL τ w cs vs.toList:=by
 unfold aggX at h
 split at h
 ·simp only[Rep]at E
  obtain⟨vs,F,I,J⟩:=E
  exact⟨_,vs,F,h,I,J⟩
 ·exact h.elim
theorem mU {x:AV} {u:Value} {KB:Bool->Prop} (E:Rep τ w x u) (h:gE x KB):∃b,u= .bool b/\KB b:=by
 unfold gE at h
 split at h
 ·simp only[Rep]at E
  exact⟨_,E,h⟩
 ·exact h.elim
theorem q_field {t:TypeId} {x:Operand} {fs:Array Field} {f:Field} {i n:Nat} {d:TypeDesc} (Z:o.op= .field t x i) (hu:P.underlying t=some (.struct fs)) (V:fs[i]? =some f) (T:P.underlying f.type=some d) (Y:aZ P f.type=some n)
  (O:(aggD d||n==1)=true) (hS:Sat G τ w) (hE:∀j,Rep τ w (env.get j) (a.tmps.getD j undef)) (h:aggX ((SOpd.of x).eval G env) λcs=>eE (aggD d) n (cs.drop f.offset) K):QOk P τ w o a K:=by
 obtain⟨cs,vs,hx,⟨I,X⟩,M,N⟩:=mO (ar hS hE x) h
 have hl:=N.length
 by_cases hz:n=0
 ·subst hz
  have F:aggD d=true:=by simpa using O
  refine⟨_,.agg #[],X,?_,λw' _=>?_⟩
  ·simp only[F,if_true,take_zero,Rep];exact⟨#[],rfl,by simp,by simp[RepL]⟩
  ·have:(part f.type vs f.offset).run P w'= .ok (.agg #[]) w':=by
    unfold part
    rw[Sem.run_bind,cq T]
    have e:vs.extract f.offset f.offset=#[]:=by apply Array.ext';simp
    simp[F,ba Y,e]
   simp[execOp,Z,hx,Instr.field,run_underlying hu,V,asAgg,this]
 ·have J:f.offset+n<=vs.size:=by simp at I hl;omega
  refine⟨_,if aggD d then .agg (vs.extract f.offset (f.offset+n))else (vs.toList.drop f.offset).headD undef,X,?_,λw' _=>?_⟩
  ·cases F:aggD d with
   |true=>
    simp only[if_true,Rep]
    have e:(vs.extract f.offset (f.offset+n)).toList=(vs.toList.drop f.offset).take n:=by
     simp
    refine⟨_,rfl,λv hv=>M v ?_,?_⟩
    ·rw[e]at hv;exact mem_of_mem_drop (mem_of_mem_take hv)
    ·rw[e];exact RepL.take n (RepL.drop _ N)
   |false=>
    simp only[Bool.false_eq_true,if_false]
    have E:=RepL.drop f.offset N
    generalize cs.drop f.offset=xs at I E
    generalize vs.toList.drop f.offset=us at E
    cases xs with
    |nil=>simp at I;omega
    |cons x xs=>
     simp only[RepL]at E
     obtain⟨u,ac,rfl,h2,_⟩:=E
     exact h2
  ·simp[execOp,Z,hx,Instr.field,run_underlying hu,V,asAgg,fF T Y vs f.offset O J]
theorem oS (s:List UInt8):(ByteArray.mk (Array.mk s)).toList=s:=ByteArray.toList_mk s
theorem append_mk (s t:List UInt8):(ByteArray.mk (Array.mk s))++(ByteArray.mk (Array.mk t))=⟨⟨s++t⟩⟩:=by
 have:((ByteArray.mk (Array.mk s))++(ByteArray.mk (Array.mk t))).data=⟨s++t⟩:=by
  rw[ByteArray.data_append]
  simp
 generalize (ByteArray.mk (Array.mk s))++(ByteArray.mk (Array.mk t))=b at*
 cases b;simp at this;simp[this]
theorem q_bin {t u:TypeId} {op:BinOp} {x y:Operand} (I:o.op= .binOp op t x y u) (O:op= .add\/op= .sub\/op= .mul\/op= .quo\/op= .rem\/op= .eql\/op= .neq\/op= .lss\/op= .leq\/op= .gtr\/op= .geq)
  (hS:Sat G τ w) (Z:∀j,Rep τ w (env.get j) (a.tmps.getD j undef)) (h:el op ((SOpd.of x).eval G env) ((SOpd.of y).eval G env) K):QOk P τ w o a K:=by
 have E:=ar (G:=G) hS Z x
 have F:=ar (G:=G) hS Z y
 unfold el at h
 split at h
 ·rename_i k1 J k2 M V X
  rw[V]at E
  rw[X]at F
  simp only[Rep]at E F
  obtain⟨rfl,h⟩:=h
  rcases O with rfl|rfl|rfl|rfl|rfl|rfl|rfl|rfl|rfl|rfl|rfl<;>simp only at h
  ·exact im h (λw'=>by simp[execOp,I,E,F,eqGuard,binOp,Op.intArith])
  ·exact im h (λw'=>by simp[execOp,I,E,F,eqGuard,binOp,Op.intArith])
  ·exact im h (λw'=>by simp[execOp,I,E,F,eqGuard,binOp,Op.intArith])
  ·exact im h.2 (λw'=>by simp[execOp,I,E,F,eqGuard,binOp,Op.intDiv,h.1])
  ·exact im h.2 (λw'=>by simp[execOp,I,E,F,eqGuard,binOp,Op.intDiv,h.1])
  ·refine bK h (λw'=>?_)
   have e:(J==M)=decide (J=M):=by by_cases N:J=M<;>simp[N]
   simp[execOp,I,E,F,eqGuard,binOp,Op.intCmp,e]
  ·refine bK h (λw'=>?_)
   have e:(J != M)=decide (J≠M):=by by_cases N:J=M<;>simp[N]
   simp[execOp,I,E,F,eqGuard,binOp,Op.intCmp,e]
  ·exact bK h (λw'=>by simp[execOp,I,E,F,eqGuard,binOp,Op.intCmp])
  ·exact bK h (λw'=>by simp[execOp,I,E,F,eqGuard,binOp,Op.intCmp])
  ·exact bK h (λw'=>by simp[execOp,I,E,F,eqGuard,binOp,Op.intCmp])
  ·exact bK h (λw'=>by simp[execOp,I,E,F,eqGuard,binOp,Op.intCmp])
 ·rename_i s1 s2 V X
  rw[V]at E
  rw[X]at F
  simp only[Rep]at E F
  have T:(s1==s2)=decide (s1=s2):=by by_cases N:s1=s2<;>simp[N]
  rcases O with rfl|rfl|rfl|rfl|rfl|rfl|rfl|rfl|rfl|rfl|rfl<;>simp only at h
  ·refine qok_str h.2 (λw'=>?_)
   have hm:¬((s1.length+s2.length:Nat):Int)>IntKind.i64.max:=by
    have e:IntKind.i64.max=9223372036854775807:=by decide
    rw[e];omega
   have Y:Op.stringOp .add ⟨⟨s1⟩⟩ ⟨⟨s2⟩⟩=pure (.string ⟨⟨s1++s2⟩⟩):=by
    simp only[Op.stringOp,ie]
    rw[if_neg hm,append_mk]
   simp only[execOp,I,E,F,eqGuard,binOp,Y]
   simp
  ·refine bK h (λw'=>?_)
   simp[execOp,I,E,F,eqGuard,binOp,Op.stringOp,T]
  ·refine bK h (λw'=>?_)
   simp[execOp,I,E,F,eqGuard,binOp,Op.stringOp,T]
  ·refine bK h (λw'=>?_)
   simp[execOp,I,E,F,eqGuard,binOp,Op.stringOp]
  ·refine bK h (λw'=>?_)
   simp[execOp,I,E,F,eqGuard,binOp,Op.stringOp,T]
  ·refine bK h (λw'=>?_)
   simp[execOp,I,E,F,eqGuard,binOp,Op.stringOp,T]
  ·refine bK h (λw'=>?_)
   simp[execOp,I,E,F,eqGuard,binOp,Op.stringOp]
 ·exact h.elim
theorem bz {op:BinOp} {t:TypeId} {x y:Operand} {u v:Value} (F:u.oneCell'=true) (E:∀(_:u= .nilIface),False) (w':World):(eqGuard op t x y u v).run P w'= .ok () w':=by
 unfold eqGuard
 cases op<;>simp
 all_goals(cases u<;>simp_all[Value.oneCell'])
theorem q_eqb {t u:TypeId} {neg:Bool} {x y:Operand} (E:o.op= .binOp (if neg then .neq else .eql) t x y u) (M:P.underlying t=some .bool)
  (I:Sat G τ w) (F:∀j,Rep τ w (env.get j) (a.tmps.getD j undef)) (h:gE ((SOpd.of x).eval G env) λp=>gE ((SOpd.of y).eval G env) λq=>K (.bool (if neg then p != q else p==q))):QOk P τ w o a K:=by
 obtain⟨p,N,h⟩:=mU (ar I F x) h
 obtain⟨q,O,h⟩:=mU (ar I F y) h
 refine bK h (λw'=>?_)
 have J:=λop=>bz (P:=P) (op:=op) (t:=t) (x:=x) (y:=y) (u:=.bool p) (v:=.bool q) rfl (λe=>by cases e) w'
 cases neg with
 |true=>
  simp only[if_true]at E
  simp only[execOp,E,N,O,Sem.run_bind,J,Result.andThen_ok,run_neq_bool w' t p q M]
  cases p<;>cases q<;>rfl
 |false=>
  simp only[Bool.false_eq_true,if_false]at E
  simp only[execOp,E,N,O,Sem.run_bind,J,Result.andThen_ok,run_eql_bool w' t p q M]
  rfl
def eqK:List Nat->List Value->List Value->Option Bool
 |[],_,_=>some true
 |0::ks,.bool a::xs,.bool b::ys=>(eqK ks xs ys).map ((a==b)&& ·)
 |1::ks,.int k a::xs,.int k' b::ys=>if k=k' then (eqK ks xs ys).map (decide (a=b)&& ·)else none
 |2::ks,.string a::xs,.string b::ys=>(eqK ks xs ys).map ((a.toList==b.toList)&& ·)
 |_,_,_=>none
theorem eqK_of_AV:∀(ks:List Nat) (xs ys:List AV) (us vs:List Value) (r:Bool),RepL τ w xs us->RepL τ w ys vs->eqAV ks xs ys=some r->eqK ks us vs=some r/\us.length=ks.length/\vs.length=ks.length:=by
 intro ks
 induction ks with
 |nil=>
  intro xs ys us vs r I J h
  match xs,ys,h with
  |[],[],h=>simp only[RepL]at I J;subst I J;simpa[eqAV,eqK]using h
 |cons k ks ih=>
  intro xs ys us vs r I J h
  unfold eqAV at h
  split at h
  ·simp_all
  ·rename_i Z a E b F Y
   cases Y
   simp only[RepL,Rep]at I J
   obtain⟨_,N,rfl,rfl,I⟩:=I
   obtain⟨_,O,rfl,rfl,J⟩:=J
   cases M:eqAV ks E F with
   |none=>simp[M]at h
   |some r'=>
    obtain⟨T,V,X⟩:=ih E F N O r' I J M
    refine⟨?_,by simp[V],by simp[X]⟩
    simpa[eqK,T,M]using h
  ·rename_i Z k1 a E k2 b F Y
   cases Y
   split at h
   ·rename_i hk
    simp only[RepL,Rep]at I J
    obtain⟨_,N,rfl,rfl,I⟩:=I
    obtain⟨_,O,rfl,rfl,J⟩:=J
    cases M:eqAV ks E F with
    |none=>simp[M]at h
    |some r'=>
     obtain⟨T,V,X⟩:=ih E F N O r' I J M
     refine⟨?_,by simp[V],by simp[X]⟩
     simpa[eqK,T,M,hk]using h
   ·cases h
  ·rename_i Z a E b F Y
   cases Y
   simp only[RepL,Rep]at I J
   obtain⟨_,N,rfl,rfl,I⟩:=I
   obtain⟨_,O,rfl,rfl,J⟩:=J
   cases M:eqAV ks E F with
   |none=>simp[M]at h
   |some r'=>
    obtain⟨T,V,X⟩:=ih E F N O r' I J M
    refine⟨?_,by simp[V],by simp[X]⟩
    have eb:(a==b)=decide (a=b):=by by_cases hc:a=b<;>simp[hc]
    simpa[eqK,T,M,oS,eb]using h
  ·cases h
theorem fb:∀(k1 J:List Nat) (xs ys:List Value) (r:Bool),eqK (k1++J) xs ys=some r->∃r1 r2,eqK k1 xs ys=some r1/\eqK J (xs.drop k1.length) (ys.drop k1.length)=some r2/\r=(r1&&r2)
 |[],J,xs,ys,r,h=>⟨true,r,by simp[eqK],by simpa using h,by simp⟩
 |k::k1,J,xs,ys,r,h=>by
  rw[cons_append]at h
  unfold eqK at h
  split at h
  ·simp_all
  ·rename_i T a E b F O
   cases O
   cases I:eqK (k1++J) E F with
   |none=>simp[I]at h
   |some r'=>
    obtain⟨r1,r2,M,N,rfl⟩:=fb k1 J E F r' I
    refine⟨(a==b)&&r1,r2,by simp[eqK,M],by simpa using N,?_⟩
    simp[I]at h
    rw[←h,Bool.and_assoc]
  ·rename_i T X a E Y b F O
   cases O
   split at h
   ·rename_i V
    cases I:eqK (k1++J) E F with
    |none=>simp[I]at h
    |some r'=>
     obtain⟨r1,r2,M,N,rfl⟩:=fb k1 J E F r' I
     refine⟨decide (a=b)&&r1,r2,by simp[eqK,M,V],by simpa using N,?_⟩
     simp[I]at h
     rw[←h,Bool.and_assoc]
   ·cases h
  ·rename_i T a E b F O
   cases O
   cases I:eqK (k1++J) E F with
   |none=>simp[I]at h
   |some r'=>
    obtain⟨r1,r2,M,N,rfl⟩:=fb k1 J E F r' I
    refine⟨(a.toList==b.toList)&&r1,r2,by simp[eqK,M],by simpa using N,?_⟩
    simp[I]at h
    rw[←h,Bool.and_assoc]
  ·cases h
theorem n8:∀(ks:List Nat) (n:Nat) (xs ys:List Value),ks.length<=n->eqK ks (xs.take n) (ys.take n)=eqK ks xs ys
 |[],n,xs,ys,_=>by simp[eqK]
 |k::ks,n+1,xs,ys,h=>by
  have ih:=λxs ys=>n8 ks n xs ys (by simpa using h)
  cases xs with
  |nil=>simp[eqK]
  |cons x xs=>
   cases ys with
   |nil=>simp[eqK]
   |cons y ys=>
    simp only[take_succ_cons]
    rcases k with _|_|_|k<;>(cases x<;>cases y<;>first|(simp only[eqK,ih];done)|(show Option.map _ (eqK ks (List.take n xs) (List.take n ys))=_;rw[ih];rfl)|(show(if _=_ then Option.map _ (eqK ks (List.take n xs) (List.take n ys))else none)=_;rw[ih];rfl)|rfl)
 |k::ks,0,xs,ys,h=>by simp at h
def FlatOk (P:Program) (d:Nat):Prop:=
 ∀(t:TypeId) (ks:List Nat),cX P d t=some ks->∀(D:Nat) (xs ys:Array Value) (off:Nat) (r:Bool),d<=D->off+ks.length<=xs.size->off+ks.length<=ys.size->
  eqK ks (xs.toList.drop off) (ys.toList.drop off)=some r->∀w':World,
  ∃u v,(part t xs off).run P w'= .ok u w'/\(part t ys off).run P w'= .ok v w'/\(Op.equalIn (D+1) t u v).run P w'= .ok r w'
theorem dC {d:Nat} (I:FlatOk P d):∀(fs:List Field) (off:Nat) (ks:List Nat),eD (cX P d) fs off=some ks->∀(D:Nat) (xs ys:Array Value) (r:Bool),d<=D->off+ks.length<=xs.size->off+ks.length<=ys.size->
  eqK ks (xs.toList.drop off) (ys.toList.drop off)=some r->∀w':World,(Op.eqFields (D+1) xs ys fs).run P w'= .ok r w'
 |[],off,ks,h,D,xs,ys,r,_,_,_,he,w'=>by
  simp only[eD]at h
  cases h
  simp[eqK]at he
  subst he
  simp[Op.eqFields]
 |f::fs,off,ks,h,D,xs,ys,r,hD,hx,hy,he,w'=>by
  simp only[eD]at h
  split at h
  ·cases h
  rename_i E
  simp at E
  split at h
  ·rename_i k1 N
   split at h
   ·rename_i J O
    cases h
    obtain⟨r1,r2,M,F,rfl⟩:=fb k1 J _ _ r he
    simp only[length_append]at hx hy
    obtain⟨u,v,T,V,X⟩:=I f.type k1 N D xs ys f.offset r1 hD (by rw[E.2];omega) (by rw[E.2];omega) (by rw[E.2];exact M) w'
    simp only[Op.eqFields,if_pos (show f.name≠ "_" from E.1),Sem.run_bind,T,V,X,Result.andThen_ok]
    cases r1 with
    |false=>simp
    |true=>
     have:=dC I fs (off+k1.length) J O D xs ys r2 hD (by omega) (by omega) (by rw[drop_drop]at F;rw[drop_drop]at F;exact F) w'
     simpa using this
   ·cases h
  ·cases h
theorem flatOk (P:Program):∀d,FlatOk P d
 |0,t,ks,h=>by simp[cX]at h
 |d+1,t,ks,h=>by
  intro D xs ys off r hD O T F w'
  simp only[cX]at h
  split at h
  ·rename_i E
   cases h
   simp at O T
   have J:xs.toList.drop off=xs[off]::xs.toList.drop (off+1):=by rw[drop_eq_getElem_cons (by simp;omega)];simp
   have M:ys.toList.drop off=ys[off]::ys.toList.drop (off+1):=by rw[drop_eq_getElem_cons (by simp;omega)];simp
   rw[J,M]at F
   refine⟨xs[off],ys[off],?_,?_,?_⟩
   ·unfold part;rw[Sem.run_bind,cq E];simp[aggD,show off<xs.size by omega]
   ·unfold part;rw[Sem.run_bind,cq E];simp[aggD,show off<ys.size by omega]
   ·generalize xs[off]=x at*
    generalize ys[off]=y at*
    cases x<;>cases y<;>simp[eqK]at F
    subst F
    exact run_equalIn_bool' w' D t _ _ E
  ·rename_i E
   cases h
   simp at O T
   have J:xs.toList.drop off=xs[off]::xs.toList.drop (off+1):=by rw[drop_eq_getElem_cons (by simp;omega)];simp
   have M:ys.toList.drop off=ys[off]::ys.toList.drop (off+1):=by rw[drop_eq_getElem_cons (by simp;omega)];simp
   rw[J,M]at F
   refine⟨xs[off],ys[off],?_,?_,?_⟩
   ·unfold part;rw[Sem.run_bind,cq E];simp[aggD,show off<xs.size by omega]
   ·unfold part;rw[Sem.run_bind,cq E];simp[aggD,show off<ys.size by omega]
   ·generalize xs[off]=x at*
    generalize ys[off]=y at*
    cases x<;>cases y<;>simp[eqK]at F
    obtain⟨rfl,rfl⟩:=F
    rw[run_equalIn_int w' D t _ _ _ _ E]
    rename_i k a b
    by_cases hc:a=b<;>simp[hc]
  ·rename_i E
   cases h
   simp at O T
   have J:xs.toList.drop off=xs[off]::xs.toList.drop (off+1):=by rw[drop_eq_getElem_cons (by simp;omega)];simp
   have M:ys.toList.drop off=ys[off]::ys.toList.drop (off+1):=by rw[drop_eq_getElem_cons (by simp;omega)];simp
   rw[J,M]at F
   refine⟨xs[off],ys[off],?_,?_,?_⟩
   ·unfold part;rw[Sem.run_bind,cq E];simp[aggD,show off<xs.size by omega]
   ·unfold part;rw[Sem.run_bind,cq E];simp[aggD,show off<ys.size by omega]
   ·generalize xs[off]=x at*
    generalize ys[off]=y at*
    cases x<;>cases y<;>simp[eqK]at F
    subst F
    exact run_equalIn_string w' D t _ _ E
  ·rename_i fs E
   split at h
   ·cases h
   rename_i Y
   split at h
   ·rename_i ag X
    split at h
    ·rename_i Z
     cases h
     have I:aZ P t=some ks.length:=by simpa using Z
     have N:aggD (.struct fs)=true:=rfl
     refine⟨_,_,fF E I xs off (by simp[N]) O w',fF E I ys off (by simp[N]) T w',?_⟩
     simp only[N,if_true]
     have ht:P.underlying t=some (.struct (P.fieldsOf t)):=by simp[Program.fieldsOf,E]
     have V:P.fieldsOf t=fs:=by simp[Program.fieldsOf,E]
     obtain⟨D',rfl⟩:∃D',D=D'+1:=⟨D-1,by omega⟩
     rw[run_equalIn_struct w' (D'+1) t _ _ ht (by simpa using Y),V]
     have ac:(xs.extract off (off+ks.length)).size=ks.length:=by simp;omega
     have ad:(ys.extract off (off+ks.length)).size=ks.length:=by simp;omega
     refine dC (flatOk P d) fs.toList 0 ks X D' _ _ r (by omega) (by omega) (by omega) ?_ w'
     have J:(xs.extract off (off+ks.length)).toList=(xs.toList.drop off).take ks.length:=by simp
     have M:(ys.extract off (off+ks.length)).toList=(ys.toList.drop off).take ks.length:=by simp
     simp only[drop_zero]
     rw[J,M,n8 _ _ _ _ (Nat.le_refl _)]
     exact F
    ·cases h
   ·cases h
  ·cases h
theorem q_eqs {t u:TypeId} {neg:Bool} {x y:Operand} {fs:Array Field} {ks:List Nat} (N:o.op= .binOp (if neg then .neq else .eql) t x y u) (T:P.underlying t=some (.struct fs)) (I:cX P 8 t=some ks) (Y:P.eqGuardType P.depth t=false)
  (X:Sat G τ w) (V:∀j,Rep τ w (env.get j) (a.tmps.getD j undef)) (h:aggX ((SOpd.of x).eval G env) λxs=>aggX ((SOpd.of y).eval G env) λys=>eqsX neg ks xs ys K):QOk P τ w o a K:=by
 obtain⟨xs,us,Z,h,_,rx⟩:=mO (ar X V x) h
 obtain⟨ys,vs,hy,h,_,ry⟩:=mO (ar X V y) h
 unfold eqsX at h
 split at h
 ·rename_i r hr
  obtain⟨h1,l1,l2⟩:=eqK_of_AV ks xs ys us.toList vs.toList r rx ry hr
  refine bK h (λw'=>?_)
  have E:P.stoodInHeld t=false/\∃F,eD (cX P 7) fs.toList 0=some F/\F=ks:=by
   simp only[cX,T]at I
   split at I
   ·cases I
   rename_i E
   split at I
   ·rename_i F M
    split at I
    ·cases I;exact⟨by simpa using E,_,M,rfl⟩
    ·cases I
   ·cases I
  obtain⟨E,F,M,rfl⟩:=E
  have ht:P.underlying t=some (.struct (P.fieldsOf t)):=by simp[Program.fieldsOf,T]
  have O:P.fieldsOf t=fs:=by simp[Program.fieldsOf,T]
  have J:(Op.equalIn 10000 t (.agg us) (.agg vs)).run P w'= .ok r w':=by
   rw[run_equalIn_struct w' 9999 t _ _ ht E,O]
   exact dC (flatOk P 7) fs.toList 0 F M 9998 us vs r (by omega) (by simp at l1;omega) (by simp at l2;omega) (by simpa using h1) w'
  cases neg with
  |true=>
   simp only[if_true]at N
   simp only[execOp,N,Z,hy,Sem.run_bind,run_eqGuard_agg w' _ t x y us vs Y,Result.andThen_ok,run_neq_struct w' t us vs,J]
   rfl
  |false=>
   simp only[Bool.false_eq_true,if_false]at N
   simp only[execOp,N,Z,hy,Sem.run_bind,run_eqGuard_agg w' _ t x y us vs Y,Result.andThen_ok,run_eql_struct w' t us vs,J]
   rfl
 ·exact h.elim
end
section
variable {G:Glob} {P:Program} {τ:Store} {w:World} {env:Env} {a:Act} {o:Oper} {K:AV->Prop}
theorem ld {op:BinOp} {t:TypeId} {x y:Operand} {E:Option Addr} {n c:Nat} {v:Value} (w':World):(eqGuard op t x y (.slice E n c) v).run P w'= .ok () w':=
 bz rfl (λe=>by cases e) w'
theorem mS {op:BinOp} {t:TypeId} {x y:Operand} {r:Option Nat} {v:Value} (w':World):(eqGuard op t x y (.map r) v).run P w'= .ok () w':=
 bz rfl (λe=>by cases e) w'
theorem nH {op:BinOp} {t:TypeId} {x y:Operand} {r:Option Addr} {v:Value} (w':World):(eqGuard op t x y (.pointer r) v).run P w'= .ok () w':=
 bz rfl (λe=>by cases e) w'
theorem mg {op:BinOp} {t:TypeId} {x y:Operand} {f:Fn} {xs ys:Array Value} {v:Value} (w':World):(eqGuard op t x y (.func f xs ys) v).run P w'= .ok () w':=
 bz rfl (λe=>by cases e) w'
theorem m7 {op:BinOp} {t:TypeId} {x y:Operand} {v:Value} (w':World):(eqGuard op t x y .nilFunc v).run P w'= .ok () w':=
 bz rfl (λe=>by cases e) w'
theorem oc {t e:TypeId} (F:P.underlying t=some (.slice e)) (d:Nat) (E:Option Addr) (n c:Nat) (w':World):(Op.equalIn (d+1) t (.slice E n c) (.slice none 0 0)).run P w'= .ok E.isNone w':=by
 cases E<;>simp[Op.equalIn,run_underlying F]
theorem eqIn_map {t k e:TypeId} (E:P.underlying t=some (.map k e)) (d:Nat) (r:Option Nat) (w':World):(Op.equalIn (d+1) t (.map r) (.map none)).run P w'= .ok r.isNone w':=by
 cases r<;>simp[Op.equalIn,run_underlying E]
theorem eqIn_ptr {t e:TypeId} (E:P.underlying t=some (.pointer e)) (d:Nat) (r:Option Addr) (w':World):(Op.equalIn (d+1) t (.pointer r) (.pointer none)).run P w'= .ok r.isNone w':=by
 cases r<;>simp[Op.equalIn,run_underlying E]
theorem eqIn_nof {t:TypeId} {ps F:Array TypeId} {I:Bool} (E:P.underlying t=some (.func ps F I)) (d:Nat) (w':World):(Op.equalIn (d+1) t .nilFunc .nilFunc).run P w'= .ok true w':=by
 simp[Op.equalIn,run_underlying E]
theorem eqIn_func {t:TypeId} {ps F:Array TypeId} {I:Bool} (E:P.underlying t=some (.func ps F I)) (d:Nat) (f:Fn) (xs ys:Array Value) (w':World):(Op.equalIn (d+1) t (.func f xs ys) .nilFunc).run P w'= .ok false w':=by
 simp[Op.equalIn,run_underlying E]
theorem j2 {t:TypeId} {u v:Value} {b:Bool} (h:∀d w',(Op.equalIn (d+1) t u v).run P w'= .ok b w') (E:∀op,op= .eql\/op= .neq->binOp op t u v=(if op= .eql then (do pure (.bool (←Op.equal t u v)))else (do pure (.bool (!(←Op.equal t u v)))))) (w':World):
  (binOp .eql t u v).run P w'= .ok (.bool b) w'/\(binOp .neq t u v).run P w'= .ok (.bool (!b)) w':=by
 rw[E .eql (.inl rfl),E .neq (.inr rfl)]
 simp[Op.equal,Op.maxDepth,h 9999]
theorem eX {t u:TypeId} {neg b:Bool} {x y:Operand} {E F:Value} (I:o.op= .binOp (if neg then .neq else .eql) t x y u) (O:a.eval x=E) (T:a.eval y=F)
  (M:∀op w',(eqGuard op t x y E F).run P w'= .ok () w') (N:∀d w',(Op.equalIn (d+1) t E F).run P w'= .ok b w')
  (J:∀op,op= .eql\/op= .neq->binOp op t E F=(if op= .eql then (do pure (.bool (←Op.equal t E F)))else (do pure (.bool (!(←Op.equal t E F)))))) (X:K (.bool (if neg then !b else b))):QOk P τ w o a K:=by
 refine bK X (λw'=>?_)
 have V:=(j2 N J w').1
 have Y:=(j2 N J w').2
 cases neg with
 |true=>
  simp only[if_true]at I
  simp only[execOp,I,O,T,Sem.run_bind,M,Result.andThen_ok,Y]
  rfl
 |false=>
  simp only[Bool.false_eq_true,if_false]at I
  simp only[execOp,I,O,T,Sem.run_bind,M,Result.andThen_ok,V]
  rfl
theorem q_eqnil {t u:TypeId} {neg:Bool} {x y:Operand} {d:TypeDesc} {k:Nat} (O:o.op= .binOp (if neg then .neq else .eql) t x y u) (T:P.underlying t=some d) (I:mF d y=some k)
  (hS:Sat G τ w) (hE:∀j,Rep τ w (env.get j) (a.tmps.getD j undef)) (h:gU k neg ((SOpd.of x).eval G env) K):QOk P τ w o a K:=by
 have E:=ar (G:=G) hS hE x
 unfold mF at I
 split at I
 ·cases I
  rename_i e
  have N:a.eval (.const (.slice none 0 0))= .slice none 0 0:=rfl
  have V:∀(J:Option Addr) (n c:Nat),a.eval x= .slice J n c->K (.bool (if neg then J.isSome else J.isNone))->QOk P τ w o a K:=by
   intro J n c Y X
   refine eX (b:=J.isNone) O Y N (λ_ w'=>ld w') (λd w'=>oc T d J n c w') (λop h=>by rcases h with rfl|rfl<;>rfl) ?_
   ·cases J<;>simpa using X
  unfold gU at h
  split at h<;>first
   |exact h.elim
   |skip
  all_goals(rename_i F M;first|(exact absurd F (by decide))|skip)
  ·rw[M]at E;simp only[Rep]at E;exact V none 0 0 E (by cases neg<;>simpa using h)
  ·rename_i sz rows
   rw[M]at E;simp only[Rep]at E
   rcases E with⟨E,hr⟩|⟨J,cap,E,_⟩
   ·exact V none 0 0 E (by have:=h (!neg) (λhn=>absurd hr hn);cases neg<;>simpa using this)
   ·exact V (some J) _ _ E (by have:=h neg (λ_=>rfl);cases neg<;>simpa using this)
  ·rename_i g e2 sz rows
   rw[M]at E
   cases g with
   |none=>simp only[Rep]at E;exact V none 0 0 E.1 (by cases neg<;>simpa using h)
   |some b=>simp only[Rep]at E;obtain⟨cap,E,_⟩:=E;exact V (some _) _ _ E (by cases neg<;>simpa using h)
 ·cases I
  have N:a.eval (.const (.map none))= .map none:=rfl
  unfold gU at h
  split at h<;>first
   |exact h.elim
   |skip
  all_goals(rename_i F M;first|(exact absurd F (by decide))|skip)
  rename_i r
  rw[M]at E;simp only[Rep]at E
  refine eX (b:=r.isNone) O E N (λ_ w'=>mS w') (λd w'=>eqIn_map T d r w') (λop h=>by rcases h with rfl|rfl<;>rfl) ?_
  ·cases r<;>simpa using h
 ·cases I
  have N:a.eval (.const .nilFunc)= .nilFunc:=rfl
  unfold gU at h
  split at h<;>first
   |exact h.elim
   |skip
  all_goals(rename_i F M;first|(exact absurd F (by decide))|skip)
  ·rw[M]at E;simp only[Rep]at E
   refine eX (b:=true) O E N (λ_ w'=>m7 w') (λd w'=>eqIn_nof T d w') (λop h=>by rcases h with rfl|rfl<;>rfl) ?_
   ·cases neg<;>simpa using h
  ·rename_i f fs cs
   rw[M]at E;simp only[Rep]at E
   refine eX (b:=false) O E N (λ_ w'=>mg w') (λd w'=>eqIn_func T d f fs cs w') (λop h=>by rcases h with rfl|rfl<;>rfl) ?_
   ·cases neg<;>simpa using h
 ·cases I
  have N:a.eval (.const (.pointer none))= .pointer none:=rfl
  have Z:∀(r:Option Addr),a.eval x= .pointer r->K (.bool (if neg then r.isSome else r.isNone))->QOk P τ w o a K:=by
   intro r Y X
   refine eX (b:=r.isNone) O Y N (λ_ w'=>nH w') (λd w'=>eqIn_ptr T d r w') (λop h=>by rcases h with rfl|rfl<;>rfl) ?_
   ·cases r<;>simpa using X
  unfold gU at h
  split at h<;>first
   |exact h.elim
   |skip
  all_goals(rename_i F M;first|(exact absurd F (by decide))|skip)
  ·rename_i r
   rw[M]at E;simp only[Rep]at E
   exact Z r E (by cases neg<;>simpa using h)
  ·rename_i cs
   rw[M]at E;simp only[Rep]at E
   obtain⟨J,E,_⟩:=E
   exact Z (some J) E (by cases neg<;>simpa using h)
 ·cases I
theorem mK {env:Env} (I:Sat G τ w) (F:∀j,Rep τ w (env.get j) (a.tmps.getD j undef)):∀(xs:List Operand) (KV:List Value->Prop),scsX G env (xs.map SOpd.of) KV->KV (xs.map a.eval)
 |[],KV,h=>h
 |x::xs,KV,h=>by
  simp only[map_cons,scsX,scX]at h
  have E:=ar (G:=G) I F x
  split at h
  ·rename_i v J
   rw[J]at E
   simp only[Rep]at E
   have:=mK I F xs _ h
   rw[map_cons,E]
   exact this
  ·exact h.elim
theorem q_mkfun {fn:Fn} {first cap:Array Operand} (O:o.op= .makeFunc fn first cap) (F:Sat G τ w) (E:∀j,Rep τ w (env.get j) (a.tmps.getD j undef))
  (h:scsX G env (first.toList.map SOpd.of) λvs=>scsX G env (cap.toList.map SOpd.of) λus=>K (.sc (.func fn vs.toArray us.toArray))):QOk P τ w o a K:=by
 have M:=mK F E _ _ h
 have N:=mK F E _ _ M
 refine⟨_,.func fn (first.toList.map a.eval).toArray (cap.toList.map a.eval).toArray,N,by simp only[Rep],λw' _=>?_⟩
 have I:first.map a.eval=(first.toList.map a.eval).toArray:=by apply Array.ext';simp
 have J:cap.map a.eval=(cap.toList.map a.eval).toArray:=by apply Array.ext';simp
 simp only[execOp,O,Instr.makeFunc,I,J]
 rfl
theorem cZ {op:Op} {O:SOp} {σ ρ:Store} (M:o.op=op) (E:bN P op=some O) (ad:τ=σ++ρ) (J:Sat G τ w) (I:∀j,Rep τ w (env.get j) (a.tmps.getD j undef)) (h:aq G O env σ K):QOk P τ w o a K:=by
 cases op with
 |move x=>cases E;exact q_mov (.inl M) J I h
 |assign x=>cases E;exact q_mov (.inr M) J I h
 |pick c x y=>cases E;exact q_pick M J I h
 |nilCheck x=>cases E;exact og M J I h
 |load t x=>
  have E:cW P t x=some O:=E
  unfold cW at E
  split at E
  ·rename_i d n F N
   split at E
   ·rename_i h1;cases E;exact q_load M F N h1 ad J I h
   ·cases E
  ·cases E
 |makeInterface t x=>
  have E:eL P t x=some O:=E
  unfold eL at E
  split at E
  ·cases E
  ·rename_i d T F
   cases E
   exact q_mkI M F T J I h
  ·cases E
 |build t parts=>
  have E:dw P t parts=some O:=E
  unfold dw at E
  split at E
  ·rename_i fs z F hz
   split at E
   ·cases E
   rename_i ac
   obtain⟨sp,hm,rfl⟩:=Option.map_eq_some_iff.1 E
   exact q_build M F hz (by simpa only[Bool.not_eq_true',Bool.not_eq_false]using ac) hm J I h
  ·cases E
 |fieldAddr t x i=>
  have E:bG P t x i=some O:=E
  unfold bG at E
  split at E
  ·rename_i fs F
   split at E
   ·rename_i f X
    split at E
    ·rename_i n N;cases E;exact q_fieldA M F X N J I h
    ·cases E
   ·cases E
  ·cases E
 |indexAddr t x i=>
  have E:cQ P t x i=some O:=E
  unfold cQ at E
  split at E
  ·rename_i e F
   obtain⟨n,N,rfl⟩:=Option.map_eq_some_iff.1 E
   exact q_indexA M F N J I h
  ·rename_i len e F
   obtain⟨n,N,rfl⟩:=Option.map_eq_some_iff.1 E
   exact q_indexP M F N J I h
  ·cases E
 |index t x i=>
  have E:du P t x i=some O:=E
  unfold du at E
  split at E
  ·rename_i F;cases E;exact q_index M F J I h
  ·cases E
 |slice t x lo hi mx=>
  cases mx with
  |some m=>cases E
  |none=>
   have E:dn P t x lo hi=some O:=E
   unfold dn at E
   split at E
   ·rename_i e F
    obtain⟨n,N,rfl⟩:=Option.map_eq_some_iff.1 E
    exact q_slice M F N J I h
   ·rename_i F;cases E;exact q_sliceS M F J I h
   ·cases E
 |field t x i=>
  have E:dA P t x i=some O:=E
  unfold dA at E
  split at E
  ·rename_i fs F
   split at E
   ·rename_i f X
    split at E
    ·rename_i d n T N
     split at E
     ·rename_i h1;cases E;exact q_field M F X T N h1 J I h
     ·cases E
    ·cases E
   ·cases E
  ·cases E
 |extract x i=>cases E;exact q_extract M J I h
 |binOp op t x y u=>
  have E:eN P op t x y=some O:=E
  have neg:∀{n:Bool},eqNeg op=some n->op=(if n then .neq else .eql):=by
   intro n N;cases op<;>cases N<;>rfl
  unfold eN at E
  split at E
  ·split at E
   ·rename_i V;cases E;exact q_bin M (by cases op<;>first|(cases V;done)|simp) J I h
   ·cases E
  ·split at E
   ·rename_i V;cases E;exact q_bin M (by cases op<;>first|(cases V;done)|simp) J I h
   ·cases E
  ·rename_i F
   obtain⟨n,N,rfl⟩:=Option.map_eq_some_iff.1 E
   exact q_eqb (neg:=n) (by rw[M,neg N]) F J I h
  ·rename_i fs F
   split at E
   ·rename_i ks X
    split at E
    ·cases E
    rename_i hg
    obtain⟨n,N,rfl⟩:=Option.map_eq_some_iff.1 E
    exact q_eqs (neg:=n) (by rw[M,neg N]) F X (by simpa using hg) J I h
   ·cases E
  ·rename_i d F
   split at E
   ·rename_i k hk
    obtain⟨n,N,rfl⟩:=Option.map_eq_some_iff.1 E
    exact q_eqnil (neg:=n) (by rw[M,neg N]) F hk J I h
   ·cases E
  ·cases E
 |unOp op t x=>
  cases op<;>first
   |(cases E;done)
   |(cases E;exact q_not M J I h)
 |convert s d x=>
  have E:d5 P s d x=some O:=E
  unfold d5 at E
  split at E
  ·rename_i j k hs T;cases E;exact q_conv M hs T J I h
  ·rename_i hs T;cases E;exact q_str M hs T J I h
  ·cases E
 |makeFunc fn first cap=>cases E;exact q_mkfun M J I h
 |alloc e=>
  have E:(cu P e).map (.alloc e ·)=some O:=E
  obtain⟨n,N,rfl⟩:=Option.map_eq_some_iff.1 E;exact h.elim
 |box e x=>
  have E:(aZ P e).map (.box e · (SOpd.of x))=some O:=E
  obtain⟨n,N,rfl⟩:=Option.map_eq_some_iff.1 E;exact h.elim
 |store t x y=>
  have E:(aZ P t).map (.store · (SOpd.of x) (SOpd.of y))=some O:=E
  obtain⟨n,N,rfl⟩:=Option.map_eq_some_iff.1 E;exact h.elim
 |buildSlice t len parts=>
  have E:cR P t len parts=some O:=E
  unfold cR at E
  split at E
  ·split at E
   ·split at E
    ·cases E;exact h.elim
    ·cases E
   ·cases E
  ·cases E
 |call c=>
  obtain⟨callee,args,argTypes⟩:=c
  cases callee with
  |invoke r m=>cases E;exact h.elim
  |value f=>cases E;exact h.elim
  |builtin b=>
   have E:bj P b args.toList argTypes.toList=some O:=E
   unfold bj at E
   split at E
   ·rename_i x t e1 e2 _e3
    have Y:args=#[x]:=by apply Array.ext';simpa using e1
    have Z:argTypes=#[t]:=by apply Array.ext';simpa using e2
    subst Y Z
    split at E
    ·rename_i F;cases E;exact q_lenS M F J I h
    ·rename_i e F;cases E;exact q_len M F J I h
    ·cases E
   ·split at E
    ·split at E
     ·split at E
      ·cases E;exact h.elim
      ·cases E
     ·cases E
    ·cases E
   ·cases E
 |_=>cases E
end
end Go.Av
