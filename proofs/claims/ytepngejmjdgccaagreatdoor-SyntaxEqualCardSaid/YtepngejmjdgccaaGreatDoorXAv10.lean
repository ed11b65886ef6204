/-
  ABSTRACT VALUES, 10: comparisons, fields, function values; then all quiet operations in one.
-/
import Derived.Test.YtepngejmjdgccaaGreatDoorXAv9
import Derived.WalkLawsBesides
namespace Go.Av
open Go Go.RowKit
set_option linter.unusedSimpArgs false
set_option linter.unusedVariables false
section
variable {G:Glob} {P:Program} {τ:Store} {w:World} {env:Env} {a:Act} {o:Oper} {K:AV->Prop}
theorem qok_int {k:IntKind} {n:Int} (hk:K (.int k n)) (h:∀w',(execOp a.eval o).run P w'= .ok (.value (.int k n)) w'):QOk P τ w o a K:=⟨_,_,hk,by simp only[Rep],λw' _=>h w'⟩
theorem qok_bool {b:Bool} (hk:K (.bool b)) (h:∀w',(execOp a.eval o).run P w'= .ok (.value (.bool b)) w'):QOk P τ w o a K:=⟨_,_,hk,by simp only[Rep],λw' _=>h w'⟩
theorem qok_str {s:List UInt8} (hk:K (.str s)) (h:∀w',(execOp a.eval o).run P w'= .ok (.value (.string ⟨⟨s⟩⟩)) w'):QOk P τ w o a K:=⟨_,_,hk,by simp only[Rep],λw' _=>h w'⟩
theorem run_part {t:TypeId} {d:TypeDesc} {n:Nat} (hu:P.underlying t=some d) (hn:sizeT P t=some n) (cs:Array Value) (off:Nat) (h1:(aggD d||n==1)=true) (hle:off+n<=cs.size) (w':World):
  (part t cs off).run P w'= .ok (if aggD d then .agg (cs.extract off (off+n))else (cs.toList.drop off).headD undef) w':=by
 unfold part
 rw[Sem.run_bind,run_isAgg hu]
 cases hd:aggD d with
 |true=>simp[run_sizeOf' hn]
 |false=>
  simp[hd]at h1
  have hlt:off<cs.size:=by omega
  simp[hlt]
theorem aggX_ok {x:AV} {u:Value} {KL:List AV->Prop} (hx:Rep τ w x u) (h:aggX x KL):∃cs vs,u= .agg vs/\KL cs/\(∀v∈vs.toList,v.oneCell'=true)/\RepL τ w cs vs.toList:=by
 unfold aggX at h
 split at h
 ·simp only[Rep]at hx
  obtain⟨vs,h1,h2,h3⟩:=hx
  exact⟨_,vs,h1,h,h2,h3⟩
 ·exact h.elim
theorem boolX_ok {x:AV} {u:Value} {KB:Bool->Prop} (hx:Rep τ w x u) (h:boolX x KB):∃b,u= .bool b/\KB b:=by
 unfold boolX at h
 split at h
 ·simp only[Rep]at hx
  exact⟨_,hx,h⟩
 ·exact h.elim
theorem q_field {t:TypeId} {x:Operand} {fs:Array Field} {f:Field} {i n:Nat} {d:TypeDesc} (ho:o.op= .field t x i) (hu:P.underlying t=some (.struct fs)) (hf:fs[i]? =some f) (hd:P.underlying f.type=some d) (hn:sizeT P f.type=some n)
  (h1:(aggD d||n==1)=true) (hS:Sat G τ w) (hE:∀j,Rep τ w (env.get j) (a.tmps.getD j undef)) (h:aggX ((SOpd.of x).eval G env) λcs=>loadAV (aggD d) n (cs.drop f.offset) K):QOk P τ w o a K:=by
 obtain⟨cs,vs,hx,⟨hle,hk⟩,ho1,hr⟩:=aggX_ok (eval_rep hS hE x) h
 have hl:=hr.length
 by_cases hz:n=0
 ·subst hz
  have hag:aggD d=true:=by simpa using h1
  refine⟨_,.agg #[],hk,?_,λw' _=>?_⟩
  ·simp only[hag,if_true,List.take_zero,Rep];exact⟨#[],rfl,by simp,by simp[RepL]⟩
  ·have:(part f.type vs f.offset).run P w'= .ok (.agg #[]) w':=by
    unfold part
    rw[Sem.run_bind,run_isAgg hd]
    have e:vs.extract f.offset f.offset=#[]:=by apply Array.ext';simp
    simp[hag,run_sizeOf' hn,e]
   simp[execOp,ho,hx,Instr.field,run_underlying hu,hf,asAgg,this]
 ·have hle2:f.offset+n<=vs.size:=by simp at hle hl;omega
  refine⟨_,if aggD d then .agg (vs.extract f.offset (f.offset+n))else (vs.toList.drop f.offset).headD undef,hk,?_,λw' _=>?_⟩
  ·cases hag:aggD d with
   |true=>
    simp only[if_true,Rep]
    have e:(vs.extract f.offset (f.offset+n)).toList=(vs.toList.drop f.offset).take n:=by
     simp
    refine⟨_,rfl,λv hv=>ho1 v ?_,?_⟩
    ·rw[e]at hv;exact List.mem_of_mem_drop (List.mem_of_mem_take hv)
    ·rw[e];exact RepL.take n (RepL.drop _ hr)
   |false=>
    simp only[Bool.false_eq_true,if_false]
    have hd2:=RepL.drop f.offset hr
    generalize cs.drop f.offset=xs at hle hd2
    generalize vs.toList.drop f.offset=us at hd2
    cases xs with
    |nil=>simp at hle;omega
    |cons x xs=>
     simp only[RepL]at hd2
     obtain⟨u,us',rfl,h2,_⟩:=hd2
     exact h2
  ·simp[execOp,ho,hx,Instr.field,run_underlying hu,hf,asAgg,run_part hd hn vs f.offset h1 hle2]
theorem toList_str (s:List UInt8):(ByteArray.mk (Array.mk s)).toList=s:=ByteArray.toList_mk s
theorem append_mk (s t:List UInt8):(ByteArray.mk (Array.mk s))++(ByteArray.mk (Array.mk t))=⟨⟨s++t⟩⟩:=by
 have:((ByteArray.mk (Array.mk s))++(ByteArray.mk (Array.mk t))).data=⟨s++t⟩:=by
  rw[ByteArray.data_append]
  simp
 generalize (ByteArray.mk (Array.mk s))++(ByteArray.mk (Array.mk t))=b at*
 cases b;simp at this;simp[this]
theorem q_bin {t u:TypeId} {op:BinOp} {x y:Operand} (ho:o.op= .binOp op t x y u) (hop:op= .add\/op= .sub\/op= .mul\/op= .quo\/op= .rem\/op= .eql\/op= .neq\/op= .lss\/op= .leq\/op= .gtr\/op= .geq)
  (hS:Sat G τ w) (hE:∀j,Rep τ w (env.get j) (a.tmps.getD j undef)) (h:binAV op ((SOpd.of x).eval G env) ((SOpd.of y).eval G env) K):QOk P τ w o a K:=by
 have hx:=eval_rep (G:=G) hS hE x
 have hy:=eval_rep (G:=G) hS hE y
 unfold binAV at h
 split at h
 ·rename_i k1 n1 k2 n2 e1 e2
  rw[e1]at hx
  rw[e2]at hy
  simp only[Rep]at hx hy
  obtain⟨rfl,h⟩:=h
  rcases hop with rfl|rfl|rfl|rfl|rfl|rfl|rfl|rfl|rfl|rfl|rfl<;>simp only at h
  ·exact qok_int h (λw'=>by simp[execOp,ho,hx,hy,eqGuard,binOp,Op.intArith])
  ·exact qok_int h (λw'=>by simp[execOp,ho,hx,hy,eqGuard,binOp,Op.intArith])
  ·exact qok_int h (λw'=>by simp[execOp,ho,hx,hy,eqGuard,binOp,Op.intArith])
  ·exact qok_int h.2 (λw'=>by simp[execOp,ho,hx,hy,eqGuard,binOp,Op.intDiv,h.1])
  ·exact qok_int h.2 (λw'=>by simp[execOp,ho,hx,hy,eqGuard,binOp,Op.intDiv,h.1])
  ·refine qok_bool h (λw'=>?_)
   have e:(n1==n2)=decide (n1=n2):=by by_cases hc:n1=n2<;>simp[hc]
   simp[execOp,ho,hx,hy,eqGuard,binOp,Op.intCmp,e]
  ·refine qok_bool h (λw'=>?_)
   have e:(n1 != n2)=decide (n1≠n2):=by by_cases hc:n1=n2<;>simp[hc]
   simp[execOp,ho,hx,hy,eqGuard,binOp,Op.intCmp,e]
  ·exact qok_bool h (λw'=>by simp[execOp,ho,hx,hy,eqGuard,binOp,Op.intCmp])
  ·exact qok_bool h (λw'=>by simp[execOp,ho,hx,hy,eqGuard,binOp,Op.intCmp])
  ·exact qok_bool h (λw'=>by simp[execOp,ho,hx,hy,eqGuard,binOp,Op.intCmp])
  ·exact qok_bool h (λw'=>by simp[execOp,ho,hx,hy,eqGuard,binOp,Op.intCmp])
 ·rename_i s1 s2 e1 e2
  rw[e1]at hx
  rw[e2]at hy
  simp only[Rep]at hx hy
  have eb:(s1==s2)=decide (s1=s2):=by by_cases hc:s1=s2<;>simp[hc]
  rcases hop with rfl|rfl|rfl|rfl|rfl|rfl|rfl|rfl|rfl|rfl|rfl<;>simp only at h
  ·refine qok_str h.2 (λw'=>?_)
   have hm:¬((s1.length+s2.length:Nat):Int)>IntKind.i64.max:=by
    have e:IntKind.i64.max=9223372036854775807:=by decide
    rw[e];omega
   have hst:Op.stringOp .add ⟨⟨s1⟩⟩ ⟨⟨s2⟩⟩=pure (.string ⟨⟨s1++s2⟩⟩):=by
    simp only[Op.stringOp,size_mk]
    rw[if_neg hm,append_mk]
   simp only[execOp,ho,hx,hy,eqGuard,binOp,hst]
   simp
  ·refine qok_bool h (λw'=>?_)
   simp[execOp,ho,hx,hy,eqGuard,binOp,Op.stringOp,eb]
  ·refine qok_bool h (λw'=>?_)
   simp[execOp,ho,hx,hy,eqGuard,binOp,Op.stringOp,eb]
  ·refine qok_bool h (λw'=>?_)
   simp[execOp,ho,hx,hy,eqGuard,binOp,Op.stringOp]
  ·refine qok_bool h (λw'=>?_)
   simp[execOp,ho,hx,hy,eqGuard,binOp,Op.stringOp,eb]
  ·refine qok_bool h (λw'=>?_)
   simp[execOp,ho,hx,hy,eqGuard,binOp,Op.stringOp,eb]
  ·refine qok_bool h (λw'=>?_)
   simp[execOp,ho,hx,hy,eqGuard,binOp,Op.stringOp]
 ·exact h.elim
theorem run_eqGuard_plain {op:BinOp} {t:TypeId} {x y:Operand} {u v:Value} (hu:u.oneCell'=true) (hn:∀(_:u= .nilIface),False) (w':World):(eqGuard op t x y u v).run P w'= .ok () w':=by
 unfold eqGuard
 cases op<;>simp
 all_goals(cases u<;>simp_all[Value.oneCell'])
theorem q_eqb {t u:TypeId} {neg:Bool} {x y:Operand} (ho:o.op= .binOp (if neg then .neq else .eql) t x y u) (hu:P.underlying t=some .bool)
  (hS:Sat G τ w) (hE:∀j,Rep τ w (env.get j) (a.tmps.getD j undef)) (h:boolX ((SOpd.of x).eval G env) λp=>boolX ((SOpd.of y).eval G env) λq=>K (.bool (if neg then p != q else p==q))):QOk P τ w o a K:=by
 obtain⟨p,hx,h⟩:=boolX_ok (eval_rep hS hE x) h
 obtain⟨q,hy,h⟩:=boolX_ok (eval_rep hS hE y) h
 refine qok_bool h (λw'=>?_)
 have hg:=λop=>run_eqGuard_plain (P:=P) (op:=op) (t:=t) (x:=x) (y:=y) (u:=.bool p) (v:=.bool q) rfl (λe=>by cases e) w'
 cases neg with
 |true=>
  simp only[if_true]at ho
  simp only[execOp,ho,hx,hy,Sem.run_bind,hg,Result.andThen_ok,run_neq_bool w' t p q hu]
  cases p<;>cases q<;>rfl
 |false=>
  simp only[Bool.false_eq_true,if_false]at ho
  simp only[execOp,ho,hx,hy,Sem.run_bind,hg,Result.andThen_ok,run_eql_bool w' t p q hu]
  rfl
def eqK:List Nat->List Value->List Value->Option Bool
 |[],_,_=>some true
 |0::ks,.bool a::xs,.bool b::ys=>(eqK ks xs ys).map ((a==b)&& ·)
 |1::ks,.int k a::xs,.int k' b::ys=>if k=k' then (eqK ks xs ys).map (decide (a=b)&& ·)else none
 |2::ks,.string a::xs,.string b::ys=>(eqK ks xs ys).map ((a.toList==b.toList)&& ·)
 |_,_,_=>none
theorem eqK_of_AV:∀(ks:List Nat) (xs ys:List AV) (us vs:List Value) (r:Bool),RepL τ w xs us->RepL τ w ys vs->eqAV ks xs ys=some r->eqK ks us vs=some r/\us.length=ks.length/\vs.length=ks.length:=by
 intro ks
 induction ks with
 |nil=>
  intro xs ys us vs r hx hy h
  match xs,ys,h with
  |[],[],h=>simp only[RepL]at hx hy;subst hx hy;simpa[eqAV,eqK]using h
 |cons k ks ih=>
  intro xs ys us vs r hx hy h
  unfold eqAV at h
  split at h
  ·simp_all
  ·rename_i ks' a xs' b ys' he
   cases he
   simp only[RepL,Rep]at hx hy
   obtain⟨_,us',rfl,rfl,hx⟩:=hx
   obtain⟨_,vs',rfl,rfl,hy⟩:=hy
   cases hr:eqAV ks xs' ys' with
   |none=>simp[hr]at h
   |some r'=>
    obtain⟨h1,h2,h3⟩:=ih xs' ys' us' vs' r' hx hy hr
    refine⟨?_,by simp[h2],by simp[h3]⟩
    simpa[eqK,h1,hr]using h
  ·rename_i ks' k1 a xs' k2 b ys' he
   cases he
   split at h
   ·rename_i hk
    simp only[RepL,Rep]at hx hy
    obtain⟨_,us',rfl,rfl,hx⟩:=hx
    obtain⟨_,vs',rfl,rfl,hy⟩:=hy
    cases hr:eqAV ks xs' ys' with
    |none=>simp[hr]at h
    |some r'=>
     obtain⟨h1,h2,h3⟩:=ih xs' ys' us' vs' r' hx hy hr
     refine⟨?_,by simp[h2],by simp[h3]⟩
     simpa[eqK,h1,hr,hk]using h
   ·cases h
  ·rename_i ks' a xs' b ys' he
   cases he
   simp only[RepL,Rep]at hx hy
   obtain⟨_,us',rfl,rfl,hx⟩:=hx
   obtain⟨_,vs',rfl,rfl,hy⟩:=hy
   cases hr:eqAV ks xs' ys' with
   |none=>simp[hr]at h
   |some r'=>
    obtain⟨h1,h2,h3⟩:=ih xs' ys' us' vs' r' hx hy hr
    refine⟨?_,by simp[h2],by simp[h3]⟩
    have eb:(a==b)=decide (a=b):=by by_cases hc:a=b<;>simp[hc]
    simpa[eqK,h1,hr,toList_str,eb]using h
  ·cases h
theorem eqK_append:∀(k1 k2:List Nat) (xs ys:List Value) (r:Bool),eqK (k1++k2) xs ys=some r->∃r1 r2,eqK k1 xs ys=some r1/\eqK k2 (xs.drop k1.length) (ys.drop k1.length)=some r2/\r=(r1&&r2)
 |[],k2,xs,ys,r,h=>⟨true,r,by simp[eqK],by simpa using h,by simp⟩
 |k::k1,k2,xs,ys,r,h=>by
  rw[List.cons_append]at h
  unfold eqK at h
  split at h
  ·simp_all
  ·rename_i ks' a xs' b ys' he
   cases he
   cases hr:eqK (k1++k2) xs' ys' with
   |none=>simp[hr]at h
   |some r'=>
    obtain⟨r1,r2,h1,h2,rfl⟩:=eqK_append k1 k2 xs' ys' r' hr
    refine⟨(a==b)&&r1,r2,by simp[eqK,h1],by simpa using h2,?_⟩
    simp[hr]at h
    rw[←h,Bool.and_assoc]
  ·rename_i ks' k1' a xs' k2' b ys' he
   cases he
   split at h
   ·rename_i hk
    cases hr:eqK (k1++k2) xs' ys' with
    |none=>simp[hr]at h
    |some r'=>
     obtain⟨r1,r2,h1,h2,rfl⟩:=eqK_append k1 k2 xs' ys' r' hr
     refine⟨decide (a=b)&&r1,r2,by simp[eqK,h1,hk],by simpa using h2,?_⟩
     simp[hr]at h
     rw[←h,Bool.and_assoc]
   ·cases h
  ·rename_i ks' a xs' b ys' he
   cases he
   cases hr:eqK (k1++k2) xs' ys' with
   |none=>simp[hr]at h
   |some r'=>
    obtain⟨r1,r2,h1,h2,rfl⟩:=eqK_append k1 k2 xs' ys' r' hr
    refine⟨(a.toList==b.toList)&&r1,r2,by simp[eqK,h1],by simpa using h2,?_⟩
    simp[hr]at h
    rw[←h,Bool.and_assoc]
  ·cases h
theorem eqK_take:∀(ks:List Nat) (n:Nat) (xs ys:List Value),ks.length<=n->eqK ks (xs.take n) (ys.take n)=eqK ks xs ys
 |[],n,xs,ys,_=>by simp[eqK]
 |k::ks,n+1,xs,ys,h=>by
  have ih:=λxs ys=>eqK_take ks n xs ys (by simpa using h)
  cases xs with
  |nil=>simp[eqK]
  |cons x xs=>
   cases ys with
   |nil=>simp[eqK]
   |cons y ys=>
    simp only[List.take_succ_cons]
    rcases k with _|_|_|k<;>(cases x<;>cases y<;>first|(simp only[eqK,ih];done)|(show Option.map _ (eqK ks (List.take n xs) (List.take n ys))=_;rw[ih];rfl)|(show(if _=_ then Option.map _ (eqK ks (List.take n xs) (List.take n ys))else none)=_;rw[ih];rfl)|rfl)
 |k::ks,0,xs,ys,h=>by simp at h
def FlatOk (P:Program) (d:Nat):Prop:=
 ∀(t:TypeId) (ks:List Nat),flatT P d t=some ks->∀(D:Nat) (xs ys:Array Value) (off:Nat) (r:Bool),d<=D->off+ks.length<=xs.size->off+ks.length<=ys.size->
  eqK ks (xs.toList.drop off) (ys.toList.drop off)=some r->∀w':World,
  ∃u v,(part t xs off).run P w'= .ok u w'/\(part t ys off).run P w'= .ok v w'/\(Op.equalIn (D+1) t u v).run P w'= .ok r w'
theorem run_eq_fields {d:Nat} (hA:FlatOk P d):∀(fs:List Field) (off:Nat) (ks:List Nat),flatFs (flatT P d) fs off=some ks->∀(D:Nat) (xs ys:Array Value) (r:Bool),d<=D->off+ks.length<=xs.size->off+ks.length<=ys.size->
  eqK ks (xs.toList.drop off) (ys.toList.drop off)=some r->∀w':World,(Op.eqFields (D+1) xs ys fs).run P w'= .ok r w'
 |[],off,ks,h,D,xs,ys,r,_,_,_,he,w'=>by
  simp only[flatFs]at h
  cases h
  simp[eqK]at he
  subst he
  simp[Op.eqFields]
 |f::fs,off,ks,h,D,xs,ys,r,hD,hx,hy,he,w'=>by
  simp only[flatFs]at h
  split at h
  ·cases h
  rename_i hnm
  simp at hnm
  split at h
  ·rename_i k1 h1
   split at h
   ·rename_i k2 h2
    cases h
    obtain⟨r1,r2,e1,e2,rfl⟩:=eqK_append k1 k2 _ _ r he
    simp only[List.length_append]at hx hy
    obtain⟨u,v,p1,p2,p3⟩:=hA f.type k1 h1 D xs ys f.offset r1 hD (by rw[hnm.2];omega) (by rw[hnm.2];omega) (by rw[hnm.2];exact e1) w'
    simp only[Op.eqFields,if_pos (show f.name≠ "_" from hnm.1),Sem.run_bind,p1,p2,p3,Result.andThen_ok]
    cases r1 with
    |false=>simp
    |true=>
     have:=run_eq_fields hA fs (off+k1.length) k2 h2 D xs ys r2 hD (by omega) (by omega) (by rw[List.drop_drop]at e2;rw[List.drop_drop]at e2;exact e2) w'
     simpa using this
   ·cases h
  ·cases h
theorem flatOk (P:Program):∀d,FlatOk P d
 |0,t,ks,h=>by simp[flatT]at h
 |d+1,t,ks,h=>by
  intro D xs ys off r hD hx hy he w'
  simp only[flatT]at h
  split at h
  ·rename_i hu
   cases h
   simp at hx hy
   have e1:xs.toList.drop off=xs[off]::xs.toList.drop (off+1):=by rw[List.drop_eq_getElem_cons (by simp;omega)];simp
   have e2:ys.toList.drop off=ys[off]::ys.toList.drop (off+1):=by rw[List.drop_eq_getElem_cons (by simp;omega)];simp
   rw[e1,e2]at he
   refine⟨xs[off],ys[off],?_,?_,?_⟩
   ·unfold part;rw[Sem.run_bind,run_isAgg hu];simp[aggD,show off<xs.size by omega]
   ·unfold part;rw[Sem.run_bind,run_isAgg hu];simp[aggD,show off<ys.size by omega]
   ·generalize xs[off]=x at*
    generalize ys[off]=y at*
    cases x<;>cases y<;>simp[eqK]at he
    subst he
    exact run_equalIn_bool' w' D t _ _ hu
  ·rename_i hu
   cases h
   simp at hx hy
   have e1:xs.toList.drop off=xs[off]::xs.toList.drop (off+1):=by rw[List.drop_eq_getElem_cons (by simp;omega)];simp
   have e2:ys.toList.drop off=ys[off]::ys.toList.drop (off+1):=by rw[List.drop_eq_getElem_cons (by simp;omega)];simp
   rw[e1,e2]at he
   refine⟨xs[off],ys[off],?_,?_,?_⟩
   ·unfold part;rw[Sem.run_bind,run_isAgg hu];simp[aggD,show off<xs.size by omega]
   ·unfold part;rw[Sem.run_bind,run_isAgg hu];simp[aggD,show off<ys.size by omega]
   ·generalize xs[off]=x at*
    generalize ys[off]=y at*
    cases x<;>cases y<;>simp[eqK]at he
    obtain⟨rfl,rfl⟩:=he
    rw[run_equalIn_int w' D t _ _ _ _ hu]
    rename_i k a b
    by_cases hc:a=b<;>simp[hc]
  ·rename_i hu
   cases h
   simp at hx hy
   have e1:xs.toList.drop off=xs[off]::xs.toList.drop (off+1):=by rw[List.drop_eq_getElem_cons (by simp;omega)];simp
   have e2:ys.toList.drop off=ys[off]::ys.toList.drop (off+1):=by rw[List.drop_eq_getElem_cons (by simp;omega)];simp
   rw[e1,e2]at he
   refine⟨xs[off],ys[off],?_,?_,?_⟩
   ·unfold part;rw[Sem.run_bind,run_isAgg hu];simp[aggD,show off<xs.size by omega]
   ·unfold part;rw[Sem.run_bind,run_isAgg hu];simp[aggD,show off<ys.size by omega]
   ·generalize xs[off]=x at*
    generalize ys[off]=y at*
    cases x<;>cases y<;>simp[eqK]at he
    subst he
    exact run_equalIn_string w' D t _ _ hu
  ·rename_i fs hu
   split at h
   ·cases h
   rename_i hst
   split at h
   ·rename_i ks' hfs
    split at h
    ·rename_i hsz
     cases h
     have hsz':sizeT P t=some ks.length:=by simpa using hsz
     have hag:aggD (.struct fs)=true:=rfl
     refine⟨_,_,run_part hu hsz' xs off (by simp[hag]) hx w',run_part hu hsz' ys off (by simp[hag]) hy w',?_⟩
     simp only[hag,if_true]
     have ht:P.underlying t=some (.struct (P.fieldsOf t)):=by simp[Program.fieldsOf,hu]
     have hfo:P.fieldsOf t=fs:=by simp[Program.fieldsOf,hu]
     obtain⟨D',rfl⟩:∃D',D=D'+1:=⟨D-1,by omega⟩
     rw[run_equalIn_struct w' (D'+1) t _ _ ht (by simpa using hst),hfo]
     have hl1:(xs.extract off (off+ks.length)).size=ks.length:=by simp;omega
     have hl2:(ys.extract off (off+ks.length)).size=ks.length:=by simp;omega
     refine run_eq_fields (flatOk P d) fs.toList 0 ks hfs D' _ _ r (by omega) (by omega) (by omega) ?_ w'
     have e1:(xs.extract off (off+ks.length)).toList=(xs.toList.drop off).take ks.length:=by simp
     have e2:(ys.extract off (off+ks.length)).toList=(ys.toList.drop off).take ks.length:=by simp
     simp only[List.drop_zero]
     rw[e1,e2,eqK_take _ _ _ _ (Nat.le_refl _)]
     exact he
    ·cases h
   ·cases h
  ·cases h
theorem q_eqs {t u:TypeId} {neg:Bool} {x y:Operand} {fs:Array Field} {ks:List Nat} (ho:o.op= .binOp (if neg then .neq else .eql) t x y u) (hu:P.underlying t=some (.struct fs)) (hf:flatT P 8 t=some ks) (hg:P.eqGuardType P.depth t=false)
  (hS:Sat G τ w) (hE:∀j,Rep τ w (env.get j) (a.tmps.getD j undef)) (h:aggX ((SOpd.of x).eval G env) λxs=>aggX ((SOpd.of y).eval G env) λys=>eqsX neg ks xs ys K):QOk P τ w o a K:=by
 obtain⟨xs,us,hx,h,_,rx⟩:=aggX_ok (eval_rep hS hE x) h
 obtain⟨ys,vs,hy,h,_,ry⟩:=aggX_ok (eval_rep hS hE y) h
 unfold eqsX at h
 split at h
 ·rename_i r hr
  obtain⟨h1,l1,l2⟩:=eqK_of_AV ks xs ys us.toList vs.toList r rx ry hr
  refine qok_bool h (λw'=>?_)
  have hst:P.stoodInHeld t=false/\∃ks',flatFs (flatT P 7) fs.toList 0=some ks'/\ks'=ks:=by
   simp only[flatT,hu]at hf
   split at hf
   ·cases hf
   rename_i hst
   split at hf
   ·rename_i ks' hfs
    split at hf
    ·cases hf;exact⟨by simpa using hst,_,hfs,rfl⟩
    ·cases hf
   ·cases hf
  obtain⟨hst,ks',hfs,rfl⟩:=hst
  have ht:P.underlying t=some (.struct (P.fieldsOf t)):=by simp[Program.fieldsOf,hu]
  have hfo:P.fieldsOf t=fs:=by simp[Program.fieldsOf,hu]
  have hrun:(Op.equalIn 10000 t (.agg us) (.agg vs)).run P w'= .ok r w':=by
   rw[run_equalIn_struct w' 9999 t _ _ ht hst,hfo]
   exact run_eq_fields (flatOk P 7) fs.toList 0 ks' hfs 9998 us vs r (by omega) (by simp at l1;omega) (by simp at l2;omega) (by simpa using h1) w'
  cases neg with
  |true=>
   simp only[if_true]at ho
   simp only[execOp,ho,hx,hy,Sem.run_bind,run_eqGuard_agg w' _ t x y us vs hg,Result.andThen_ok,run_neq_struct w' t us vs,hrun]
   rfl
  |false=>
   simp only[Bool.false_eq_true,if_false]at ho
   simp only[execOp,ho,hx,hy,Sem.run_bind,run_eqGuard_agg w' _ t x y us vs hg,Result.andThen_ok,run_eql_struct w' t us vs,hrun]
   rfl
 ·exact h.elim
end
end Go.Av
