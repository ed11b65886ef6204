/-
  ABSTRACT VALUES, 10: comparisons, fields, function values; then all quiet operations in one.
-/
import Derived.Test.YtnoakpkjccigoaaGreatDoorXAv8toXAv9
import Derived.WalkLawsBesides
namespace Go.Av
open Go Go.RowKit List
set_option linter.unusedSimpArgs false
set_option linter.unusedVariables false
section
variable {G:Glob} {P:Program} {τ:Store} {w:World} {env:Env} {a:Act} {o:Oper} {K:AV->Prop}
theorem iJ {k:IntKind} {n:Int} (hk:K (.int k n)) (h:∀w',(execOp a.eval o).run P w'= .ok (.value (.int k n)) w'):QOk P τ w o a K:=⟨_,_,hk,by simp only[Rep],λw' _=>h w'⟩
theorem bP {b:Bool} (hk:K (.bool b)) (h:∀w',(execOp a.eval o).run P w'= .ok (.value (.bool b)) w'):QOk P τ w o a K:=⟨_,_,hk,by simp only[Rep],λw' _=>h w'⟩
theorem qok_str {s:List UInt8} (hk:K (.str s)) (h:∀w',(execOp a.eval o).run P w'= .ok (.value (.string ⟨⟨s⟩⟩)) w'):QOk P τ w o a K:=⟨_,_,hk,by simp only[Rep],λw' _=>h w'⟩
theorem fR {t:TypeId} {d:TypeDesc} {n:Nat} (hu:P.underlying t=some d) (hn:bj P t=some n) (cs:Array Value) (off:Nat) (h1:(aggD d||n==1)=true) (hle:off+n<=cs.size) (w':World):
  (part t cs off).run P w'= .ok (if aggD d then .agg (cs.extract off (off+n))else (cs.toList.drop off).headD undef) w':=by
 unfold part
 rw[Sem.run_bind,cy hu]
 cases hd:aggD d with
 |true=>simp[bv hn]
 |false=>
  simp[hd]at h1
  have hlt:off<cs.size:=by omega
  simp[hlt]
theorem mj {x:AV} {u:Value} {KL:List AV->Prop} (hx:Rep τ w x u) (h:aggX x KL):∃cs vs,u= .agg vs/\KL cs/\(∀v∈vs.toList,v.oneCell'=true)/\RepL τ w cs vs.toList:=by
 unfold aggX at h
 split at h
 ·simp only[Rep]at hx
  obtain⟨vs,h1,h2,h3⟩:=hx
  exact⟨_,vs,h1,h,h2,h3⟩
 ·exact h.elim
theorem nG {x:AV} {u:Value} {KB:Bool->Prop} (hx:Rep τ w x u) (h:gX x KB):∃b,u= .bool b/\KB b:=by
 unfold gX at h
 split at h
 ·simp only[Rep]at hx
  exact⟨_,hx,h⟩
 ·exact h.elim
theorem q_field {t:TypeId} {x:Operand} {fs:Array Field} {f:Field} {i n:Nat} {d:TypeDesc} (ho:o.op= .field t x i) (hu:P.underlying t=some (.struct fs)) (hf:fs[i]? =some f) (hd:P.underlying f.type=some d) (hn:bj P f.type=some n)
  (h1:(aggD d||n==1)=true) (hS:Sat G τ w) (hE:∀j,Rep τ w (env.get j) (a.tmps.getD j undef)) (h:aggX ((SOpd.of x).eval G env) λcs=>eV (aggD d) n (cs.drop f.offset) K):QOk P τ w o a K:=by
 obtain⟨cs,vs,hx,⟨hle,hk⟩,ho1,hr⟩:=mj (ao hS hE x) h
 have hl:=hr.length
 by_cases hz:n=0
 ·subst hz
  have hag:aggD d=true:=by simpa using h1
  refine⟨_,.agg #[],hk,?_,λw' _=>?_⟩
  ·simp only[hag,if_true,take_zero,Rep];exact⟨#[],rfl,by simp,by simp[RepL]⟩
  ·have:(part f.type vs f.offset).run P w'= .ok (.agg #[]) w':=by
    unfold part
    rw[Sem.run_bind,cy hd]
    have e:vs.extract f.offset f.offset=#[]:=by apply Array.ext';simp
    simp[hag,bv hn,e]
   simp[execOp,ho,hx,Instr.field,run_underlying hu,hf,asAgg,this]
 ·have hle2:f.offset+n<=vs.size:=by simp at hle hl;omega
  refine⟨_,if aggD d then .agg (vs.extract f.offset (f.offset+n))else (vs.toList.drop f.offset).headD undef,hk,?_,λw' _=>?_⟩
  ·cases hag:aggD d with
   |true=>
    simp only[if_true,Rep]
    have e:(vs.extract f.offset (f.offset+n)).toList=(vs.toList.drop f.offset).take n:=by
     simp
    refine⟨_,rfl,λv hv=>ho1 v ?_,?_⟩
    ·rw[e]at hv;exact mem_of_mem_drop (mem_of_mem_take hv)
    ·rw[e];exact RepL.take n (RepL.drop _ hr)
   |false=>
    simp only[Bool.false_eq_true,if_false]
    have hd2:=RepL.drop f.offset hr
    generalize cs.drop f.offset=xs at hle hd2
    generalize vs.toList.drop f.offset=us at hd2
    cases xs with
    |nil=>simp at hle;omega
    |cons x xs=>
     simp only[RepL]at hd2
     obtain⟨u,us',rfl,h2,_⟩:=hd2
     exact h2
  ·simp[execOp,ho,hx,Instr.field,run_underlying hu,hf,asAgg,fR hd hn vs f.offset h1 hle2]
theorem oY (s:List UInt8):(ByteArray.mk (Array.mk s)).toList=s:=ByteArray.toList_mk s
theorem append_mk (s t:List UInt8):(ByteArray.mk (Array.mk s))++(ByteArray.mk (Array.mk t))=⟨⟨s++t⟩⟩:=by
 have:((ByteArray.mk (Array.mk s))++(ByteArray.mk (Array.mk t))).data=⟨s++t⟩:=by
  rw[ByteArray.data_append]
  simp
 generalize (ByteArray.mk (Array.mk s))++(ByteArray.mk (Array.mk t))=b at*
 cases b;simp at this;simp[this]
theorem q_bin {t u:TypeId} {op:BinOp} {x y:Operand} (ho:o.op= .binOp op t x y u) (hop:op= .add\/op= .sub\/op= .mul\/op= .quo\/op= .rem\/op= .eql\/op= .neq\/op= .lss\/op= .leq\/op= .gtr\/op= .geq)
  (hS:Sat G τ w) (hE:∀j,Rep τ w (env.get j) (a.tmps.getD j undef)) (h:er op ((SOpd.of x).eval G env) ((SOpd.of y).eval G env) K):QOk P τ w o a K:=by
 have hx:=ao (G:=G) hS hE x
 have hy:=ao (G:=G) hS hE y
 unfold er at h
 split at h
 ·rename_i k1 n1 k2 n2 e1 e2
  rw[e1]at hx
  rw[e2]at hy
  simp only[Rep]at hx hy
  obtain⟨rfl,h⟩:=h
  rcases hop with rfl|rfl|rfl|rfl|rfl|rfl|rfl|rfl|rfl|rfl|rfl<;>simp only at h
  ·exact iJ h (λw'=>by simp[execOp,ho,hx,hy,eqGuard,binOp,Op.intArith])
  ·exact iJ h (λw'=>by simp[execOp,ho,hx,hy,eqGuard,binOp,Op.intArith])
  ·exact iJ h (λw'=>by simp[execOp,ho,hx,hy,eqGuard,binOp,Op.intArith])
  ·exact iJ h.2 (λw'=>by simp[execOp,ho,hx,hy,eqGuard,binOp,Op.intDiv,h.1])
  ·exact iJ h.2 (λw'=>by simp[execOp,ho,hx,hy,eqGuard,binOp,Op.intDiv,h.1])
  ·refine bP h (λw'=>?_)
   have e:(n1==n2)=decide (n1=n2):=by by_cases hc:n1=n2<;>simp[hc]
   simp[execOp,ho,hx,hy,eqGuard,binOp,Op.intCmp,e]
  ·refine bP h (λw'=>?_)
   have e:(n1 != n2)=decide (n1≠n2):=by by_cases hc:n1=n2<;>simp[hc]
   simp[execOp,ho,hx,hy,eqGuard,binOp,Op.intCmp,e]
  ·exact bP h (λw'=>by simp[execOp,ho,hx,hy,eqGuard,binOp,Op.intCmp])
  ·exact bP h (λw'=>by simp[execOp,ho,hx,hy,eqGuard,binOp,Op.intCmp])
  ·exact bP h (λw'=>by simp[execOp,ho,hx,hy,eqGuard,binOp,Op.intCmp])
  ·exact bP h (λw'=>by simp[execOp,ho,hx,hy,eqGuard,binOp,Op.intCmp])
 ·rename_i s1 s2 e1 e2
  rw[e1]at hx
  rw[e2]at hy
  simp only[Rep]at hx hy
  have eb:(s1==s2)=decide (s1=s2):=by by_cases hc:s1=s2<;>simp[hc]
  rcases hop with rfl|rfl|rfl|rfl|rfl|rfl|rfl|rfl|rfl|rfl|rfl<;>simp only at h
  ·refine qok_str h.2 (λw'=>?_)
   have hm:¬((s1.length+s2.length:Nat):Int)>IntKind.i64.max:=by
    have e:IntKind.i64.max=9223372036854775807:=by decide
    rw[e];omega
   have hst:Op.stringOp .add ⟨⟨s1⟩⟩ ⟨⟨s2⟩⟩=pure (.string ⟨⟨s1++s2⟩⟩):=by
    simp only[Op.stringOp,iL]
    rw[if_neg hm,append_mk]
   simp only[execOp,ho,hx,hy,eqGuard,binOp,hst]
   simp
  ·refine bP h (λw'=>?_)
   simp[execOp,ho,hx,hy,eqGuard,binOp,Op.stringOp,eb]
  ·refine bP h (λw'=>?_)
   simp[execOp,ho,hx,hy,eqGuard,binOp,Op.stringOp,eb]
  ·refine bP h (λw'=>?_)
   simp[execOp,ho,hx,hy,eqGuard,binOp,Op.stringOp]
  ·refine bP h (λw'=>?_)
   simp[execOp,ho,hx,hy,eqGuard,binOp,Op.stringOp,eb]
  ·refine bP h (λw'=>?_)
   simp[execOp,ho,hx,hy,eqGuard,binOp,Op.stringOp,eb]
  ·refine bP h (λw'=>?_)
   simp[execOp,ho,hx,hy,eqGuard,binOp,Op.stringOp]
 ·exact h.elim
theorem bH {op:BinOp} {t:TypeId} {x y:Operand} {u v:Value} (hu:u.oneCell'=true) (hn:∀(_:u= .nilIface),False) (w':World):(eqGuard op t x y u v).run P w'= .ok () w':=by
 unfold eqGuard
 cases op<;>simp
 all_goals(cases u<;>simp_all[Value.oneCell'])
theorem q_eqb {t u:TypeId} {neg:Bool} {x y:Operand} (ho:o.op= .binOp (if neg then .neq else .eql) t x y u) (hu:P.underlying t=some .bool)
  (hS:Sat G τ w) (hE:∀j,Rep τ w (env.get j) (a.tmps.getD j undef)) (h:gX ((SOpd.of x).eval G env) λp=>gX ((SOpd.of y).eval G env) λq=>K (.bool (if neg then p != q else p==q))):QOk P τ w o a K:=by
 obtain⟨p,hx,h⟩:=nG (ao hS hE x) h
 obtain⟨q,hy,h⟩:=nG (ao hS hE y) h
 refine bP h (λw'=>?_)
 have hg:=λop=>bH (P:=P) (op:=op) (t:=t) (x:=x) (y:=y) (u:=.bool p) (v:=.bool q) rfl (λe=>by cases e) w'
 cases neg with
 |true=>
  simp only[if_true]at ho
  simp only[execOp,ho,hx,hy,Sem.run_bind,hg,Result.andThen_ok,run_neq_bool w' t p q hu]
  cases p<;>cases q<;>rfl
 |false=>
  simp only[Bool.false_eq_true,if_false]at ho
  simp only[execOp,ho,hx,hy,Sem.run_bind,hg,Result.andThen_ok,run_eql_bool w' t p q hu]
  rfl
def eqK:List Nat->List Value->List Value->Option Bool
 |[],_,_=>some true
 |0::ks,.bool a::xs,.bool b::ys=>(eqK ks xs ys).map ((a==b)&& ·)
 |1::ks,.int k a::xs,.int k' b::ys=>if k=k' then (eqK ks xs ys).map (decide (a=b)&& ·)else none
 |2::ks,.string a::xs,.string b::ys=>(eqK ks xs ys).map ((a.toList==b.toList)&& ·)
 |_,_,_=>none
theorem eqK_of_AV:∀(ks:List Nat) (xs ys:List AV) (us vs:List Value) (r:Bool),RepL τ w xs us->RepL τ w ys vs->eqAV ks xs ys=some r->eqK ks us vs=some r/\us.length=ks.length/\vs.length=ks.length:=by
 intro ks
 induction ks with
 |nil=>
  intro xs ys us vs r hx hy h
  match xs,ys,h with
  |[],[],h=>simp only[RepL]at hx hy;subst hx hy;simpa[eqAV,eqK]using h
 |cons k ks ih=>
  intro xs ys us vs r hx hy h
  unfold eqAV at h
  split at h
  ·simp_all
  ·rename_i ks' a xs' b ys' he
   cases he
   simp only[RepL,Rep]at hx hy
   obtain⟨_,us',rfl,rfl,hx⟩:=hx
   obtain⟨_,vs',rfl,rfl,hy⟩:=hy
   cases hr:eqAV ks xs' ys' with
   |none=>simp[hr]at h
   |some r'=>
    obtain⟨h1,h2,h3⟩:=ih xs' ys' us' vs' r' hx hy hr
    refine⟨?_,by simp[h2],by simp[h3]⟩
    simpa[eqK,h1,hr]using h
  ·rename_i ks' k1 a xs' k2 b ys' he
   cases he
   split at h
   ·rename_i hk
    simp only[RepL,Rep]at hx hy
    obtain⟨_,us',rfl,rfl,hx⟩:=hx
    obtain⟨_,vs',rfl,rfl,hy⟩:=hy
    cases hr:eqAV ks xs' ys' with
    |none=>simp[hr]at h
    |some r'=>
     obtain⟨h1,h2,h3⟩:=ih xs' ys' us' vs' r' hx hy hr
     refine⟨?_,by simp[h2],by simp[h3]⟩
     simpa[eqK,h1,hr,hk]using h
   ·cases h
  ·rename_i ks' a xs' b ys' he
   cases he
   simp only[RepL,Rep]at hx hy
   obtain⟨_,us',rfl,rfl,hx⟩:=hx
   obtain⟨_,vs',rfl,rfl,hy⟩:=hy
   cases hr:eqAV ks xs' ys' with
   |none=>simp[hr]at h
   |some r'=>
    obtain⟨h1,h2,h3⟩:=ih xs' ys' us' vs' r' hx hy hr
    refine⟨?_,by simp[h2],by simp[h3]⟩
    have eb:(a==b)=decide (a=b):=by by_cases hc:a=b<;>simp[hc]
    simpa[eqK,h1,hr,oY,eb]using h
  ·cases h
theorem fu:∀(k1 k2:List Nat) (xs ys:List Value) (r:Bool),eqK (k1++k2) xs ys=some r->∃r1 r2,eqK k1 xs ys=some r1/\eqK k2 (xs.drop k1.length) (ys.drop k1.length)=some r2/\r=(r1&&r2)
 |[],k2,xs,ys,r,h=>⟨true,r,by simp[eqK],by simpa using h,by simp⟩
 |k::k1,k2,xs,ys,r,h=>by
  rw[cons_append]at h
  unfold eqK at h
  split at h
  ·simp_all
  ·rename_i ks' a xs' b ys' he
   cases he
   cases hr:eqK (k1++k2) xs' ys' with
   |none=>simp[hr]at h
   |some r'=>
    obtain⟨r1,r2,h1,h2,rfl⟩:=fu k1 k2 xs' ys' r' hr
    refine⟨(a==b)&&r1,r2,by simp[eqK,h1],by simpa using h2,?_⟩
    simp[hr]at h
    rw[←h,Bool.and_assoc]
  ·rename_i ks' k1' a xs' k2' b ys' he
   cases he
   split at h
   ·rename_i hk
    cases hr:eqK (k1++k2) xs' ys' with
    |none=>simp[hr]at h
    |some r'=>
     obtain⟨r1,r2,h1,h2,rfl⟩:=fu k1 k2 xs' ys' r' hr
     refine⟨decide (a=b)&&r1,r2,by simp[eqK,h1,hk],by simpa using h2,?_⟩
     simp[hr]at h
     rw[←h,Bool.and_assoc]
   ·cases h
  ·rename_i ks' a xs' b ys' he
   cases he
   cases hr:eqK (k1++k2) xs' ys' with
   |none=>simp[hr]at h
   |some r'=>
    obtain⟨r1,r2,h1,h2,rfl⟩:=fu k1 k2 xs' ys' r' hr
    refine⟨(a.toList==b.toList)&&r1,r2,by simp[eqK,h1],by simpa using h2,?_⟩
    simp[hr]at h
    rw[←h,Bool.and_assoc]
  ·cases h
theorem nK:∀(ks:List Nat) (n:Nat) (xs ys:List Value),ks.length<=n->eqK ks (xs.take n) (ys.take n)=eqK ks xs ys
 |[],n,xs,ys,_=>by simp[eqK]
 |k::ks,n+1,xs,ys,h=>by
  have ih:=λxs ys=>nK ks n xs ys (by simpa using h)
  cases xs with
  |nil=>simp[eqK]
  |cons x xs=>
   cases ys with
   |nil=>simp[eqK]
   |cons y ys=>
    simp only[take_succ_cons]
    rcases k with _|_|_|k<;>(cases x<;>cases y<;>first|(simp only[eqK,ih];done)|(show Option.map _ (eqK ks (List.take n xs) (List.take n ys))=_;rw[ih];rfl)|(show(if _=_ then Option.map _ (eqK ks (List.take n xs) (List.take n ys))else none)=_;rw[ih];rfl)|rfl)
 |k::ks,0,xs,ys,h=>by simp at h
def FlatOk (P:Program) (d:Nat):Prop:=
 ∀(t:TypeId) (ks:List Nat),du P d t=some ks->∀(D:Nat) (xs ys:Array Value) (off:Nat) (r:Bool),d<=D->off+ks.length<=xs.size->off+ks.length<=ys.size->
  eqK ks (xs.toList.drop off) (ys.toList.drop off)=some r->∀w':World,
  ∃u v,(part t xs off).run P w'= .ok u w'/\(part t ys off).run P w'= .ok v w'/\(Op.equalIn (D+1) t u v).run P w'= .ok r w'
theorem dJ {d:Nat} (hA:FlatOk P d):∀(fs:List Field) (off:Nat) (ks:List Nat),eP (du P d) fs off=some ks->∀(D:Nat) (xs ys:Array Value) (r:Bool),d<=D->off+ks.length<=xs.size->off+ks.length<=ys.size->
  eqK ks (xs.toList.drop off) (ys.toList.drop off)=some r->∀w':World,(Op.eqFields (D+1) xs ys fs).run P w'= .ok r w'
 |[],off,ks,h,D,xs,ys,r,_,_,_,he,w'=>by
  simp only[eP]at h
  cases h
  simp[eqK]at he
  subst he
  simp[Op.eqFields]
 |f::fs,off,ks,h,D,xs,ys,r,hD,hx,hy,he,w'=>by
  simp only[eP]at h
  split at h
  ·cases h
  rename_i hnm
  simp at hnm
  split at h
  ·rename_i k1 h1
   split at h
   ·rename_i k2 h2
    cases h
    obtain⟨r1,r2,e1,e2,rfl⟩:=fu k1 k2 _ _ r he
    simp only[length_append]at hx hy
    obtain⟨u,v,p1,p2,p3⟩:=hA f.type k1 h1 D xs ys f.offset r1 hD (by rw[hnm.2];omega) (by rw[hnm.2];omega) (by rw[hnm.2];exact e1) w'
    simp only[Op.eqFields,if_pos (show f.name≠ "_" from hnm.1),Sem.run_bind,p1,p2,p3,Result.andThen_ok]
    cases r1 with
    |false=>simp
    |true=>
     have:=dJ hA fs (off+k1.length) k2 h2 D xs ys r2 hD (by omega) (by omega) (by rw[drop_drop]at e2;rw[drop_drop]at e2;exact e2) w'
     simpa using this
   ·cases h
  ·cases h
theorem flatOk (P:Program):∀d,FlatOk P d
 |0,t,ks,h=>by simp[du]at h
 |d+1,t,ks,h=>by
  intro D xs ys off r hD hx hy he w'
  simp only[du]at h
  split at h
  ·rename_i hu
   cases h
   simp at hx hy
   have e1:xs.toList.drop off=xs[off]::xs.toList.drop (off+1):=by rw[drop_eq_getElem_cons (by simp;omega)];simp
   have e2:ys.toList.drop off=ys[off]::ys.toList.drop (off+1):=by rw[drop_eq_getElem_cons (by simp;omega)];simp
   rw[e1,e2]at he
   refine⟨xs[off],ys[off],?_,?_,?_⟩
   ·unfold part;rw[Sem.run_bind,cy hu];simp[aggD,show off<xs.size by omega]
   ·unfold part;rw[Sem.run_bind,cy hu];simp[aggD,show off<ys.size by omega]
   ·generalize xs[off]=x at*
    generalize ys[off]=y at*
    cases x<;>cases y<;>simp[eqK]at he
    subst he
    exact run_equalIn_bool' w' D t _ _ hu
  ·rename_i hu
   cases h
   simp at hx hy
   have e1:xs.toList.drop off=xs[off]::xs.toList.drop (off+1):=by rw[drop_eq_getElem_cons (by simp;omega)];simp
   have e2:ys.toList.drop off=ys[off]::ys.toList.drop (off+1):=by rw[drop_eq_getElem_cons (by simp;omega)];simp
   rw[e1,e2]at he
   refine⟨xs[off],ys[off],?_,?_,?_⟩
   ·unfold part;rw[Sem.run_bind,cy hu];simp[aggD,show off<xs.size by omega]
   ·unfold part;rw[Sem.run_bind,cy hu];simp[aggD,show off<ys.size by omega]
   ·generalize xs[off]=x at*
    generalize ys[off]=y at*
    cases x<;>cases y<;>simp[eqK]at he
    obtain⟨rfl,rfl⟩:=he
    rw[run_equalIn_int w' D t _ _ _ _ hu]
    rename_i k a b
    by_cases hc:a=b<;>simp[hc]
  ·rename_i hu
   cases h
   simp at hx hy
   have e1:xs.toList.drop off=xs[off]::xs.toList.drop (off+1):=by rw[drop_eq_getElem_cons (by simp;omega)];simp
   have e2:ys.toList.drop off=ys[off]::ys.toList.drop (off+1):=by rw[drop_eq_getElem_cons (by simp;omega)];simp
   rw[e1,e2]at he
   refine⟨xs[off],ys[off],?_,?_,?_⟩
   ·unfold part;rw[Sem.run_bind,cy hu];simp[aggD,show off<xs.size by omega]
   ·unfold part;rw[Sem.run_bind,cy hu];simp[aggD,show off<ys.size by omega]
   ·generalize xs[off]=x at*
    generalize ys[off]=y at*
    cases x<;>cases y<;>simp[eqK]at he
    subst he
    exact run_equalIn_string w' D t _ _ hu
  ·rename_i fs hu
   split at h
   ·cases h
   rename_i hst
   split at h
   ·rename_i ks' hfs
    split at h
    ·rename_i hsz
     cases h
     have hsz':bj P t=some ks.length:=by simpa using hsz
     have hag:aggD (.struct fs)=true:=rfl
     refine⟨_,_,fR hu hsz' xs off (by simp[hag]) hx w',fR hu hsz' ys off (by simp[hag]) hy w',?_⟩
     simp only[hag,if_true]
     have ht:P.underlying t=some (.struct (P.fieldsOf t)):=by simp[Program.fieldsOf,hu]
     have hfo:P.fieldsOf t=fs:=by simp[Program.fieldsOf,hu]
     obtain⟨D',rfl⟩:∃D',D=D'+1:=⟨D-1,by omega⟩
     rw[run_equalIn_struct w' (D'+1) t _ _ ht (by simpa using hst),hfo]
     have hl1:(xs.extract off (off+ks.length)).size=ks.length:=by simp;omega
     have hl2:(ys.extract off (off+ks.length)).size=ks.length:=by simp;omega
     refine dJ (flatOk P d) fs.toList 0 ks hfs D' _ _ r (by omega) (by omega) (by omega) ?_ w'
     have e1:(xs.extract off (off+ks.length)).toList=(xs.toList.drop off).take ks.length:=by simp
     have e2:(ys.extract off (off+ks.length)).toList=(ys.toList.drop off).take ks.length:=by simp
     simp only[drop_zero]
     rw[e1,e2,nK _ _ _ _ (Nat.le_refl _)]
     exact he
    ·cases h
   ·cases h
  ·cases h
theorem q_eqs {t u:TypeId} {neg:Bool} {x y:Operand} {fs:Array Field} {ks:List Nat} (ho:o.op= .binOp (if neg then .neq else .eql) t x y u) (hu:P.underlying t=some (.struct fs)) (hf:du P 8 t=some ks) (hg:P.eqGuardType P.depth t=false)
  (hS:Sat G τ w) (hE:∀j,Rep τ w (env.get j) (a.tmps.getD j undef)) (h:aggX ((SOpd.of x).eval G env) λxs=>aggX ((SOpd.of y).eval G env) λys=>eqsX neg ks xs ys K):QOk P τ w o a K:=by
 obtain⟨xs,us,hx,h,_,rx⟩:=mj (ao hS hE x) h
 obtain⟨ys,vs,hy,h,_,ry⟩:=mj (ao hS hE y) h
 unfold eqsX at h
 split at h
 ·rename_i r hr
  obtain⟨h1,l1,l2⟩:=eqK_of_AV ks xs ys us.toList vs.toList r rx ry hr
  refine bP h (λw'=>?_)
  have hst:P.stoodInHeld t=false/\∃ks',eP (du P 7) fs.toList 0=some ks'/\ks'=ks:=by
   simp only[du,hu]at hf
   split at hf
   ·cases hf
   rename_i hst
   split at hf
   ·rename_i ks' hfs
    split at hf
    ·cases hf;exact⟨by simpa using hst,_,hfs,rfl⟩
    ·cases hf
   ·cases hf
  obtain⟨hst,ks',hfs,rfl⟩:=hst
  have ht:P.underlying t=some (.struct (P.fieldsOf t)):=by simp[Program.fieldsOf,hu]
  have hfo:P.fieldsOf t=fs:=by simp[Program.fieldsOf,hu]
  have hrun:(Op.equalIn 10000 t (.agg us) (.agg vs)).run P w'= .ok r w':=by
   rw[run_equalIn_struct w' 9999 t _ _ ht hst,hfo]
   exact dJ (flatOk P 7) fs.toList 0 ks' hfs 9998 us vs r (by omega) (by simp at l1;omega) (by simp at l2;omega) (by simpa using h1) w'
  cases neg with
  |true=>
   simp only[if_true]at ho
   simp only[execOp,ho,hx,hy,Sem.run_bind,run_eqGuard_agg w' _ t x y us vs hg,Result.andThen_ok,run_neq_struct w' t us vs,hrun]
   rfl
  |false=>
   simp only[Bool.false_eq_true,if_false]at ho
   simp only[execOp,ho,hx,hy,Sem.run_bind,run_eqGuard_agg w' _ t x y us vs hg,Result.andThen_ok,run_eql_struct w' t us vs,hrun]
   rfl
 ·exact h.elim
end
section
variable {G:Glob} {P:Program} {τ:Store} {w:World} {env:Env} {a:Act} {o:Oper} {K:AV->Prop}
theorem lj {op:BinOp} {t:TypeId} {x y:Operand} {ad:Option Addr} {n c:Nat} {v:Value} (w':World):(eqGuard op t x y (.slice ad n c) v).run P w'= .ok () w':=
 bH rfl (λe=>by cases e) w'
theorem mZ {op:BinOp} {t:TypeId} {x y:Operand} {r:Option Nat} {v:Value} (w':World):(eqGuard op t x y (.map r) v).run P w'= .ok () w':=
 bH rfl (λe=>by cases e) w'
theorem nY {op:BinOp} {t:TypeId} {x y:Operand} {r:Option Addr} {v:Value} (w':World):(eqGuard op t x y (.pointer r) v).run P w'= .ok () w':=
 bH rfl (λe=>by cases e) w'
theorem mN {op:BinOp} {t:TypeId} {x y:Operand} {f:Fn} {xs ys:Array Value} {v:Value} (w':World):(eqGuard op t x y (.func f xs ys) v).run P w'= .ok () w':=
 bH rfl (λe=>by cases e) w'
theorem nf {op:BinOp} {t:TypeId} {x y:Operand} {v:Value} (w':World):(eqGuard op t x y .nilFunc v).run P w'= .ok () w':=
 bH rfl (λe=>by cases e) w'
theorem oV {t e:TypeId} (hu:P.underlying t=some (.slice e)) (d:Nat) (ad:Option Addr) (n c:Nat) (w':World):(Op.equalIn (d+1) t (.slice ad n c) (.slice none 0 0)).run P w'= .ok ad.isNone w':=by
 cases ad<;>simp[Op.equalIn,run_underlying hu]
theorem eqIn_map {t k e:TypeId} (hu:P.underlying t=some (.map k e)) (d:Nat) (r:Option Nat) (w':World):(Op.equalIn (d+1) t (.map r) (.map none)).run P w'= .ok r.isNone w':=by
 cases r<;>simp[Op.equalIn,run_underlying hu]
theorem eqIn_ptr {t e:TypeId} (hu:P.underlying t=some (.pointer e)) (d:Nat) (r:Option Addr) (w':World):(Op.equalIn (d+1) t (.pointer r) (.pointer none)).run P w'= .ok r.isNone w':=by
 cases r<;>simp[Op.equalIn,run_underlying hu]
theorem eqIn_nof {t:TypeId} {ps rs:Array TypeId} {vr:Bool} (hu:P.underlying t=some (.func ps rs vr)) (d:Nat) (w':World):(Op.equalIn (d+1) t .nilFunc .nilFunc).run P w'= .ok true w':=by
 simp[Op.equalIn,run_underlying hu]
theorem eqIn_func {t:TypeId} {ps rs:Array TypeId} {vr:Bool} (hu:P.underlying t=some (.func ps rs vr)) (d:Nat) (f:Fn) (xs ys:Array Value) (w':World):(Op.equalIn (d+1) t (.func f xs ys) .nilFunc).run P w'= .ok false w':=by
 simp[Op.equalIn,run_underlying hu]
theorem kZ {t:TypeId} {u v:Value} {b:Bool} (h:∀d w',(Op.equalIn (d+1) t u v).run P w'= .ok b w') (he:∀op,op= .eql\/op= .neq->binOp op t u v=(if op= .eql then (do pure (.bool (←Op.equal t u v)))else (do pure (.bool (!(←Op.equal t u v)))))) (w':World):
  (binOp .eql t u v).run P w'= .ok (.bool b) w'/\(binOp .neq t u v).run P w'= .ok (.bool (!b)) w':=by
 rw[he .eql (.inl rfl),he .neq (.inr rfl)]
 simp[Op.equal,Op.maxDepth,h 9999]
theorem fi {t u:TypeId} {neg b:Bool} {x y:Operand} {vx vy:Value} (ho:o.op= .binOp (if neg then .neq else .eql) t x y u) (hx:a.eval x=vx) (hy:a.eval y=vy)
  (hg:∀op w',(eqGuard op t x y vx vy).run P w'= .ok () w') (hq:∀d w',(Op.equalIn (d+1) t vx vy).run P w'= .ok b w')
  (hb:∀op,op= .eql\/op= .neq->binOp op t vx vy=(if op= .eql then (do pure (.bool (←Op.equal t vx vy)))else (do pure (.bool (!(←Op.equal t vx vy)))))) (hk:K (.bool (if neg then !b else b))):QOk P τ w o a K:=by
 refine bP hk (λw'=>?_)
 have he:=(kZ hq hb w').1
 have hn:=(kZ hq hb w').2
 cases neg with
 |true=>
  simp only[if_true]at ho
  simp only[execOp,ho,hx,hy,Sem.run_bind,hg,Result.andThen_ok,hn]
  rfl
 |false=>
  simp only[Bool.false_eq_true,if_false]at ho
  simp only[execOp,ho,hx,hy,Sem.run_bind,hg,Result.andThen_ok,he]
  rfl
theorem q_eqnil {t u:TypeId} {neg:Bool} {x y:Operand} {d:TypeDesc} {k:Nat} (ho:o.op= .binOp (if neg then .neq else .eql) t x y u) (hu:P.underlying t=some d) (hkd:mG d y=some k)
  (hS:Sat G τ w) (hE:∀j,Rep τ w (env.get j) (a.tmps.getD j undef)) (h:ia k neg ((SOpd.of x).eval G env) K):QOk P τ w o a K:=by
 have hx:=ao (G:=G) hS hE x
 unfold mG at hkd
 split at hkd
 ·cases hkd
  rename_i e
  have hy:a.eval (.const (.slice none 0 0))= .slice none 0 0:=rfl
  have sl:∀(ad:Option Addr) (n c:Nat),a.eval x= .slice ad n c->K (.bool (if neg then ad.isSome else ad.isNone))->QOk P τ w o a K:=by
   intro ad n c hv hk
   refine fi (b:=ad.isNone) ho hv hy (λ_ w'=>lj w') (λd w'=>oV hu d ad n c w') (λop h=>by rcases h with rfl|rfl<;>rfl) ?_
   ·cases ad<;>simpa using hk
  unfold ia at h
  split at h<;>first
   |exact h.elim
   |skip
  all_goals(rename_i hk0 he;first|(exact absurd hk0 (by decide))|skip)
  ·rw[he]at hx;simp only[Rep]at hx;exact sl none 0 0 hx (by cases neg<;>simpa using h)
  ·rename_i sz rows
   rw[he]at hx;simp only[Rep]at hx
   rcases hx with⟨hx,hr⟩|⟨ad,cap,hx,_⟩
   ·exact sl none 0 0 hx (by have:=h (!neg) (λhn=>absurd hr hn);cases neg<;>simpa using this)
   ·exact sl (some ad) _ _ hx (by have:=h neg (λ_=>rfl);cases neg<;>simpa using this)
  ·rename_i g e2 sz rows
   rw[he]at hx
   cases g with
   |none=>simp only[Rep]at hx;exact sl none 0 0 hx.1 (by cases neg<;>simpa using h)
   |some b=>simp only[Rep]at hx;obtain⟨cap,hx,_⟩:=hx;exact sl (some _) _ _ hx (by cases neg<;>simpa using h)
 ·cases hkd
  have hy:a.eval (.const (.map none))= .map none:=rfl
  unfold ia at h
  split at h<;>first
   |exact h.elim
   |skip
  all_goals(rename_i hk0 he;first|(exact absurd hk0 (by decide))|skip)
  rename_i r
  rw[he]at hx;simp only[Rep]at hx
  refine fi (b:=r.isNone) ho hx hy (λ_ w'=>mZ w') (λd w'=>eqIn_map hu d r w') (λop h=>by rcases h with rfl|rfl<;>rfl) ?_
  ·cases r<;>simpa using h
 ·cases hkd
  have hy:a.eval (.const .nilFunc)= .nilFunc:=rfl
  unfold ia at h
  split at h<;>first
   |exact h.elim
   |skip
  all_goals(rename_i hk0 he;first|(exact absurd hk0 (by decide))|skip)
  ·rw[he]at hx;simp only[Rep]at hx
   refine fi (b:=true) ho hx hy (λ_ w'=>nf w') (λd w'=>eqIn_nof hu d w') (λop h=>by rcases h with rfl|rfl<;>rfl) ?_
   ·cases neg<;>simpa using h
  ·rename_i f fs cs
   rw[he]at hx;simp only[Rep]at hx
   refine fi (b:=false) ho hx hy (λ_ w'=>mN w') (λd w'=>eqIn_func hu d f fs cs w') (λop h=>by rcases h with rfl|rfl<;>rfl) ?_
   ·cases neg<;>simpa using h
 ·cases hkd
  have hy:a.eval (.const (.pointer none))= .pointer none:=rfl
  have pt:∀(r:Option Addr),a.eval x= .pointer r->K (.bool (if neg then r.isSome else r.isNone))->QOk P τ w o a K:=by
   intro r hv hk
   refine fi (b:=r.isNone) ho hv hy (λ_ w'=>nY w') (λd w'=>eqIn_ptr hu d r w') (λop h=>by rcases h with rfl|rfl<;>rfl) ?_
   ·cases r<;>simpa using hk
  unfold ia at h
  split at h<;>first
   |exact h.elim
   |skip
  all_goals(rename_i hk0 he;first|(exact absurd hk0 (by decide))|skip)
  ·rename_i r
   rw[he]at hx;simp only[Rep]at hx
   exact pt r hx (by cases neg<;>simpa using h)
  ·rename_i cs
   rw[he]at hx;simp only[Rep]at hx
   obtain⟨ad,hx,_⟩:=hx
   exact pt (some ad) hx (by cases neg<;>simpa using h)
 ·cases hkd
theorem mq {env:Env} (hS:Sat G τ w) (hE:∀j,Rep τ w (env.get j) (a.tmps.getD j undef)):∀(xs:List Operand) (KV:List Value->Prop),scsX G env (xs.map SOpd.of) KV->KV (xs.map a.eval)
 |[],KV,h=>h
 |x::xs,KV,h=>by
  simp only[map_cons,scsX,scX]at h
  have hx:=ao (G:=G) hS hE x
  split at h
  ·rename_i v he
   rw[he]at hx
   simp only[Rep]at hx
   have:=mq hS hE xs _ h
   rw[map_cons,hx]
   exact this
  ·exact h.elim
theorem q_mkfun {fn:Fn} {first cap:Array Operand} (ho:o.op= .makeFunc fn first cap) (hS:Sat G τ w) (hE:∀j,Rep τ w (env.get j) (a.tmps.getD j undef))
  (h:scsX G env (first.toList.map SOpd.of) λvs=>scsX G env (cap.toList.map SOpd.of) λus=>K (.sc (.func fn vs.toArray us.toArray))):QOk P τ w o a K:=by
 have h1:=mq hS hE _ _ h
 have h2:=mq hS hE _ _ h1
 refine⟨_,.func fn (first.toList.map a.eval).toArray (cap.toList.map a.eval).toArray,h2,by simp only[Rep],λw' _=>?_⟩
 have e1:first.map a.eval=(first.toList.map a.eval).toArray:=by apply Array.ext';simp
 have e2:cap.map a.eval=(cap.toList.map a.eval).toArray:=by apply Array.ext';simp
 simp only[execOp,ho,Instr.makeFunc,e1,e2]
 rfl
theorem dg {op:Op} {so:SOp} {σ ρ:Store} (ho:o.op=op) (ht:bQ P op=some so) (hτ:τ=σ++ρ) (hS:Sat G τ w) (hE:∀j,Rep τ w (env.get j) (a.tmps.getD j undef)) (h:aq G so env σ K):QOk P τ w o a K:=by
 cases op with
 |move x=>cases ht;exact q_mov (.inl ho) hS hE h
 |assign x=>cases ht;exact q_mov (.inr ho) hS hE h
 |pick c x y=>cases ht;exact q_pick ho hS hE h
 |nilCheck x=>cases ht;exact pi ho hS hE h
 |load t x=>
  have ht:da P t x=some so:=ht
  unfold da at ht
  split at ht
  ·rename_i d n hu hn
   split at ht
   ·rename_i h1;cases ht;exact q_load ho hu hn h1 hτ hS hE h
   ·cases ht
  ·cases ht
 |makeInterface t x=>
  have ht:fj P t x=some so:=ht
  unfold fj at ht
  split at ht
  ·cases ht
  ·rename_i d hd hu
   cases ht
   exact q_mkI ho hu hd hS hE h
  ·cases ht
 |build t parts=>
  have ht:dA P t parts=some so:=ht
  unfold dA at ht
  split at ht
  ·rename_i fs z hu hz
   split at ht
   ·cases ht
   rename_i hfs
   obtain⟨sp,hm,rfl⟩:=Option.map_eq_some_iff.1 ht
   exact q_build ho hu hz (by simpa only[Bool.not_eq_true',Bool.not_eq_false]using hfs) hm hS hE h
  ·cases ht
 |fieldAddr t x i=>
  have ht:bM P t x i=some so:=ht
  unfold bM at ht
  split at ht
  ·rename_i fs hu
   split at ht
   ·rename_i f hf
    split at ht
    ·rename_i n hn;cases ht;exact q_fieldA ho hu hf hn hS hE h
    ·cases ht
   ·cases ht
  ·cases ht
 |indexAddr t x i=>
  have ht:cY P t x i=some so:=ht
  unfold cY at ht
  split at ht
  ·rename_i e hu
   obtain⟨n,hn,rfl⟩:=Option.map_eq_some_iff.1 ht
   exact q_indexA ho hu hn hS hE h
  ·rename_i len e hu
   obtain⟨n,hn,rfl⟩:=Option.map_eq_some_iff.1 ht
   exact q_indexP ho hu hn hS hE h
  ·cases ht
 |index t x i=>
  have ht:dw P t x i=some so:=ht
  unfold dw at ht
  split at ht
  ·rename_i hu;cases ht;exact q_index ho hu hS hE h
  ·cases ht
 |slice t x lo hi mx=>
  cases mx with
  |some m=>cases ht
  |none=>
   have ht:dz P t x lo hi=some so:=ht
   unfold dz at ht
   split at ht
   ·rename_i e hu
    obtain⟨n,hn,rfl⟩:=Option.map_eq_some_iff.1 ht
    exact q_slice ho hu hn hS hE h
   ·rename_i hu;cases ht;exact q_sliceS ho hu hS hE h
   ·cases ht
 |field t x i=>
  have ht:dE P t x i=some so:=ht
  unfold dE at ht
  split at ht
  ·rename_i fs hu
   split at ht
   ·rename_i f hf
    split at ht
    ·rename_i d n hd hn
     split at ht
     ·rename_i h1;cases ht;exact q_field ho hu hf hd hn h1 hS hE h
     ·cases ht
    ·cases ht
   ·cases ht
  ·cases ht
 |extract x i=>cases ht;exact q_extract ho hS hE h
 |binOp op t x y u=>
  have ht:eY P op t x y=some so:=ht
  have neg:∀{n:Bool},eqNeg op=some n->op=(if n then .neq else .eql):=by
   intro n hn;cases op<;>cases hn<;>rfl
  unfold eY at ht
  split at ht
  ·split at ht
   ·rename_i hop;cases ht;exact q_bin ho (by cases op<;>first|(cases hop;done)|simp) hS hE h
   ·cases ht
  ·split at ht
   ·rename_i hop;cases ht;exact q_bin ho (by cases op<;>first|(cases hop;done)|simp) hS hE h
   ·cases ht
  ·rename_i hu
   obtain⟨n,hn,rfl⟩:=Option.map_eq_some_iff.1 ht
   exact q_eqb (neg:=n) (by rw[ho,neg hn]) hu hS hE h
  ·rename_i fs hu
   split at ht
   ·rename_i ks hf
    split at ht
    ·cases ht
    rename_i hg
    obtain⟨n,hn,rfl⟩:=Option.map_eq_some_iff.1 ht
    exact q_eqs (neg:=n) (by rw[ho,neg hn]) hu hf (by simpa using hg) hS hE h
   ·cases ht
  ·rename_i d hu
   split at ht
   ·rename_i k hk
    obtain⟨n,hn,rfl⟩:=Option.map_eq_some_iff.1 ht
    exact q_eqnil (neg:=n) (by rw[ho,neg hn]) hu hk hS hE h
   ·cases ht
  ·cases ht
 |unOp op t x=>
  cases op<;>first
   |(cases ht;done)
   |(cases ht;exact q_not ho hS hE h)
 |convert s d x=>
  have ht:ee P s d x=some so:=ht
  unfold ee at ht
  split at ht
  ·rename_i j k hs hd;cases ht;exact q_conv ho hs hd hS hE h
  ·rename_i hs hd;cases ht;exact q_str ho hs hd hS hE h
  ·cases ht
 |makeFunc fn first cap=>cases ht;exact q_mkfun ho hS hE h
 |alloc e=>
  have ht:(cK P e).map (.alloc e ·)=some so:=ht
  obtain⟨n,hn,rfl⟩:=Option.map_eq_some_iff.1 ht;exact h.elim
 |box e x=>
  have ht:(bj P e).map (.box e · (SOpd.of x))=some so:=ht
  obtain⟨n,hn,rfl⟩:=Option.map_eq_some_iff.1 ht;exact h.elim
 |store t x y=>
  have ht:(bj P t).map (.store · (SOpd.of x) (SOpd.of y))=some so:=ht
  obtain⟨n,hn,rfl⟩:=Option.map_eq_some_iff.1 ht;exact h.elim
 |buildSlice t len parts=>
  have ht:cZ P t len parts=some so:=ht
  unfold cZ at ht
  split at ht
  ·split at ht
   ·split at ht
    ·cases ht;exact h.elim
    ·cases ht
   ·cases ht
  ·cases ht
 |call c=>
  obtain⟨callee,args,argTypes⟩:=c
  cases callee with
  |invoke r m=>cases ht;exact h.elim
  |value f=>cases ht;exact h.elim
  |builtin b=>
   have ht:bC P b args.toList argTypes.toList=some so:=ht
   unfold bC at ht
   split at ht
   ·rename_i x t e1 e2 _e3
    have e1':args=#[x]:=by apply Array.ext';simpa using e1
    have e2':argTypes=#[t]:=by apply Array.ext';simpa using e2
    subst e1' e2'
    split at ht
    ·rename_i hu;cases ht;exact q_lenS ho hu hS hE h
    ·rename_i e hu;cases ht;exact q_len ho hu hS hE h
    ·cases ht
   ·split at ht
    ·split at ht
     ·split at ht
      ·cases ht;exact h.elim
      ·cases ht
     ·cases ht
    ·cases ht
   ·cases ht
 |_=>cases ht
end
end Go.Av
