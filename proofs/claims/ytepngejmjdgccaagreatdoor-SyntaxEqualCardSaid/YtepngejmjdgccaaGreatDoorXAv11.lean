/-
  ABSTRACT VALUES, 11: all quiet operations in one.
-/
import Derived.Test.YtepngejmjdgccaaGreatDoorXAv10
namespace Go.Av
open Go Go.RowKit
set_option linter.unusedSimpArgs false
set_option linter.unusedVariables false
section
variable {G:Glob} {P:Program} {τ:Store} {w:World} {env:Env} {a:Act} {o:Oper} {K:AV->Prop}
theorem eqGuard_slice {op:BinOp} {t:TypeId} {x y:Operand} {ad:Option Addr} {n c:Nat} {v:Value} (w':World):(eqGuard op t x y (.slice ad n c) v).run P w'= .ok () w':=
 run_eqGuard_plain rfl (λe=>by cases e) w'
theorem eqGuard_map {op:BinOp} {t:TypeId} {x y:Operand} {r:Option Nat} {v:Value} (w':World):(eqGuard op t x y (.map r) v).run P w'= .ok () w':=
 run_eqGuard_plain rfl (λe=>by cases e) w'
theorem eqGuard_ptr {op:BinOp} {t:TypeId} {x y:Operand} {r:Option Addr} {v:Value} (w':World):(eqGuard op t x y (.pointer r) v).run P w'= .ok () w':=
 run_eqGuard_plain rfl (λe=>by cases e) w'
theorem eqGuard_func {op:BinOp} {t:TypeId} {x y:Operand} {f:Fn} {xs ys:Array Value} {v:Value} (w':World):(eqGuard op t x y (.func f xs ys) v).run P w'= .ok () w':=
 run_eqGuard_plain rfl (λe=>by cases e) w'
theorem eqGuard_nof {op:BinOp} {t:TypeId} {x y:Operand} {v:Value} (w':World):(eqGuard op t x y .nilFunc v).run P w'= .ok () w':=
 run_eqGuard_plain rfl (λe=>by cases e) w'
theorem eqIn_slice {t e:TypeId} (hu:P.underlying t=some (.slice e)) (d:Nat) (ad:Option Addr) (n c:Nat) (w':World):(Op.equalIn (d+1) t (.slice ad n c) (.slice none 0 0)).run P w'= .ok ad.isNone w':=by
 cases ad<;>simp[Op.equalIn,run_underlying hu]
theorem eqIn_map {t k e:TypeId} (hu:P.underlying t=some (.map k e)) (d:Nat) (r:Option Nat) (w':World):(Op.equalIn (d+1) t (.map r) (.map none)).run P w'= .ok r.isNone w':=by
 cases r<;>simp[Op.equalIn,run_underlying hu]
theorem eqIn_ptr {t e:TypeId} (hu:P.underlying t=some (.pointer e)) (d:Nat) (r:Option Addr) (w':World):(Op.equalIn (d+1) t (.pointer r) (.pointer none)).run P w'= .ok r.isNone w':=by
 cases r<;>simp[Op.equalIn,run_underlying hu]
theorem eqIn_nof {t:TypeId} {ps rs:Array TypeId} {vr:Bool} (hu:P.underlying t=some (.func ps rs vr)) (d:Nat) (w':World):(Op.equalIn (d+1) t .nilFunc .nilFunc).run P w'= .ok true w':=by
 simp[Op.equalIn,run_underlying hu]
theorem eqIn_func {t:TypeId} {ps rs:Array TypeId} {vr:Bool} (hu:P.underlying t=some (.func ps rs vr)) (d:Nat) (f:Fn) (xs ys:Array Value) (w':World):(Op.equalIn (d+1) t (.func f xs ys) .nilFunc).run P w'= .ok false w':=by
 simp[Op.equalIn,run_underlying hu]
theorem run_eql_of {t:TypeId} {u v:Value} {b:Bool} (h:∀d w',(Op.equalIn (d+1) t u v).run P w'= .ok b w') (he:∀op,op= .eql\/op= .neq->binOp op t u v=(if op= .eql then (do pure (.bool (←Op.equal t u v)))else (do pure (.bool (!(←Op.equal t u v)))))) (w':World):
  (binOp .eql t u v).run P w'= .ok (.bool b) w'/\(binOp .neq t u v).run P w'= .ok (.bool (!b)) w':=by
 rw[he .eql (.inl rfl),he .neq (.inr rfl)]
 simp[Op.equal,Op.maxDepth,h 9999]
theorem q_nil_fin {t u:TypeId} {neg b:Bool} {x y:Operand} {vx vy:Value} (ho:o.op= .binOp (if neg then .neq else .eql) t x y u) (hx:a.eval x=vx) (hy:a.eval y=vy)
  (hg:∀op w',(eqGuard op t x y vx vy).run P w'= .ok () w') (hq:∀d w',(Op.equalIn (d+1) t vx vy).run P w'= .ok b w')
  (hb:∀op,op= .eql\/op= .neq->binOp op t vx vy=(if op= .eql then (do pure (.bool (←Op.equal t vx vy)))else (do pure (.bool (!(←Op.equal t vx vy)))))) (hk:K (.bool (if neg then !b else b))):QOk P τ w o a K:=by
 refine qok_bool hk (λw'=>?_)
 have he:=(run_eql_of hq hb w').1
 have hn:=(run_eql_of hq hb w').2
 cases neg with
 |true=>
  simp only[if_true]at ho
  simp only[execOp,ho,hx,hy,Sem.run_bind,hg,Result.andThen_ok,hn]
  rfl
 |false=>
  simp only[Bool.false_eq_true,if_false]at ho
  simp only[execOp,ho,hx,hy,Sem.run_bind,hg,Result.andThen_ok,he]
  rfl
theorem q_eqnil {t u:TypeId} {neg:Bool} {x y:Operand} {d:TypeDesc} {k:Nat} (ho:o.op= .binOp (if neg then .neq else .eql) t x y u) (hu:P.underlying t=some d) (hkd:nilKind d y=some k)
  (hS:Sat G τ w) (hE:∀j,Rep τ w (env.get j) (a.tmps.getD j undef)) (h:eqnilX k neg ((SOpd.of x).eval G env) K):QOk P τ w o a K:=by
 have hx:=eval_rep (G:=G) hS hE x
 unfold nilKind at hkd
 split at hkd
 ·cases hkd
  rename_i e
  have hy:a.eval (.const (.slice none 0 0))= .slice none 0 0:=rfl
  have sl:∀(ad:Option Addr) (n c:Nat),a.eval x= .slice ad n c->K (.bool (if neg then ad.isSome else ad.isNone))->QOk P τ w o a K:=by
   intro ad n c hv hk
   refine q_nil_fin (b:=ad.isNone) ho hv hy (λ_ w'=>eqGuard_slice w') (λd w'=>eqIn_slice hu d ad n c w') (λop h=>by rcases h with rfl|rfl<;>rfl) ?_
   ·cases ad<;>simpa using hk
  unfold eqnilX at h
  split at h<;>first
   |exact h.elim
   |skip
  all_goals(rename_i hk0 he;first|(exact absurd hk0 (by decide))|skip)
  ·rw[he]at hx;simp only[Rep]at hx;exact sl none 0 0 hx (by cases neg<;>simpa using h)
  ·rename_i sz rows
   rw[he]at hx;simp only[Rep]at hx
   rcases hx with⟨hx,hr⟩|⟨ad,cap,hx,_⟩
   ·exact sl none 0 0 hx (by have:=h (!neg) (λhn=>absurd hr hn);cases neg<;>simpa using this)
   ·exact sl (some ad) _ _ hx (by have:=h neg (λ_=>rfl);cases neg<;>simpa using this)
  ·rename_i g e2 sz rows
   rw[he]at hx
   cases g with
   |none=>simp only[Rep]at hx;exact sl none 0 0 hx.1 (by cases neg<;>simpa using h)
   |some b=>simp only[Rep]at hx;obtain⟨cap,hx,_⟩:=hx;exact sl (some _) _ _ hx (by cases neg<;>simpa using h)
 ·cases hkd
  have hy:a.eval (.const (.map none))= .map none:=rfl
  unfold eqnilX at h
  split at h<;>first
   |exact h.elim
   |skip
  all_goals(rename_i hk0 he;first|(exact absurd hk0 (by decide))|skip)
  rename_i r
  rw[he]at hx;simp only[Rep]at hx
  refine q_nil_fin (b:=r.isNone) ho hx hy (λ_ w'=>eqGuard_map w') (λd w'=>eqIn_map hu d r w') (λop h=>by rcases h with rfl|rfl<;>rfl) ?_
  ·cases r<;>simpa using h
 ·cases hkd
  have hy:a.eval (.const .nilFunc)= .nilFunc:=rfl
  unfold eqnilX at h
  split at h<;>first
   |exact h.elim
   |skip
  all_goals(rename_i hk0 he;first|(exact absurd hk0 (by decide))|skip)
  ·rw[he]at hx;simp only[Rep]at hx
   refine q_nil_fin (b:=true) ho hx hy (λ_ w'=>eqGuard_nof w') (λd w'=>eqIn_nof hu d w') (λop h=>by rcases h with rfl|rfl<;>rfl) ?_
   ·cases neg<;>simpa using h
  ·rename_i f fs cs
   rw[he]at hx;simp only[Rep]at hx
   refine q_nil_fin (b:=false) ho hx hy (λ_ w'=>eqGuard_func w') (λd w'=>eqIn_func hu d f fs cs w') (λop h=>by rcases h with rfl|rfl<;>rfl) ?_
   ·cases neg<;>simpa using h
 ·cases hkd
  have hy:a.eval (.const (.pointer none))= .pointer none:=rfl
  have pt:∀(r:Option Addr),a.eval x= .pointer r->K (.bool (if neg then r.isSome else r.isNone))->QOk P τ w o a K:=by
   intro r hv hk
   refine q_nil_fin (b:=r.isNone) ho hv hy (λ_ w'=>eqGuard_ptr w') (λd w'=>eqIn_ptr hu d r w') (λop h=>by rcases h with rfl|rfl<;>rfl) ?_
   ·cases r<;>simpa using hk
  unfold eqnilX at h
  split at h<;>first
   |exact h.elim
   |skip
  all_goals(rename_i hk0 he;first|(exact absurd hk0 (by decide))|skip)
  ·rename_i r
   rw[he]at hx;simp only[Rep]at hx
   exact pt r hx (by cases neg<;>simpa using h)
  ·rename_i cs
   rw[he]at hx;simp only[Rep]at hx
   obtain⟨ad,hx,_⟩:=hx
   exact pt (some ad) hx (by cases neg<;>simpa using h)
 ·cases hkd
theorem scsX_ok {env:Env} (hS:Sat G τ w) (hE:∀j,Rep τ w (env.get j) (a.tmps.getD j undef)):∀(xs:List Operand) (KV:List Value->Prop),scsX G env (xs.map SOpd.of) KV->KV (xs.map a.eval)
 |[],KV,h=>h
 |x::xs,KV,h=>by
  simp only[List.map_cons,scsX,scX]at h
  have hx:=eval_rep (G:=G) hS hE x
  split at h
  ·rename_i v he
   rw[he]at hx
   simp only[Rep]at hx
   have:=scsX_ok hS hE xs _ h
   rw[List.map_cons,hx]
   exact this
  ·exact h.elim
theorem q_mkfun {fn:Fn} {first cap:Array Operand} (ho:o.op= .makeFunc fn first cap) (hS:Sat G τ w) (hE:∀j,Rep τ w (env.get j) (a.tmps.getD j undef))
  (h:scsX G env (first.toList.map SOpd.of) λvs=>scsX G env (cap.toList.map SOpd.of) λus=>K (.sc (.func fn vs.toArray us.toArray))):QOk P τ w o a K:=by
 have h1:=scsX_ok hS hE _ _ h
 have h2:=scsX_ok hS hE _ _ h1
 refine⟨_,.func fn (first.toList.map a.eval).toArray (cap.toList.map a.eval).toArray,h2,by simp only[Rep],λw' _=>?_⟩
 have e1:first.map a.eval=(first.toList.map a.eval).toArray:=by apply Array.ext';simp
 have e2:cap.map a.eval=(cap.toList.map a.eval).toArray:=by apply Array.ext';simp
 simp only[execOp,ho,Instr.makeFunc,e1,e2]
 rfl
theorem aq_sound {op:Op} {so:SOp} {σ ρ:Store} (ho:o.op=op) (ht:transOp P op=some so) (hτ:τ=σ++ρ) (hS:Sat G τ w) (hE:∀j,Rep τ w (env.get j) (a.tmps.getD j undef)) (h:aq G so env σ K):QOk P τ w o a K:=by
 cases op with
 |move x=>cases ht;exact q_mov (.inl ho) hS hE h
 |assign x=>cases ht;exact q_mov (.inr ho) hS hE h
 |pick c x y=>cases ht;exact q_pick ho hS hE h
 |nilCheck x=>cases ht;exact q_nilCheck ho hS hE h
 |load t x=>
  have ht:transLoad P t x=some so:=ht
  unfold transLoad at ht
  split at ht
  ·rename_i d n hu hn
   split at ht
   ·rename_i h1;cases ht;exact q_load ho hu hn h1 hτ hS hE h
   ·cases ht
  ·cases ht
 |makeInterface t x=>
  have ht:transMkI P t x=some so:=ht
  unfold transMkI at ht
  split at ht
  ·cases ht
  ·rename_i d hd hu
   cases ht
   exact q_mkI ho hu hd hS hE h
  ·cases ht
 |build t parts=>
  have ht:transBuild P t parts=some so:=ht
  unfold transBuild at ht
  split at ht
  ·rename_i fs z hu hz
   split at ht
   ·cases ht
   rename_i hfs
   obtain⟨sp,hm,rfl⟩:=Option.map_eq_some_iff.1 ht
   exact q_build ho hu hz (by simpa only[Bool.not_eq_true',Bool.not_eq_false]using hfs) hm hS hE h
  ·cases ht
 |fieldAddr t x i=>
  have ht:transFieldA P t x i=some so:=ht
  unfold transFieldA at ht
  split at ht
  ·rename_i fs hu
   split at ht
   ·rename_i f hf
    split at ht
    ·rename_i n hn;cases ht;exact q_fieldA ho hu hf hn hS hE h
    ·cases ht
   ·cases ht
  ·cases ht
 |indexAddr t x i=>
  have ht:transIndexA P t x i=some so:=ht
  unfold transIndexA at ht
  split at ht
  ·rename_i e hu
   obtain⟨n,hn,rfl⟩:=Option.map_eq_some_iff.1 ht
   exact q_indexA ho hu hn hS hE h
  ·rename_i len e hu
   obtain⟨n,hn,rfl⟩:=Option.map_eq_some_iff.1 ht
   exact q_indexP ho hu hn hS hE h
  ·cases ht
 |index t x i=>
  have ht:transIndex P t x i=some so:=ht
  unfold transIndex at ht
  split at ht
  ·rename_i hu;cases ht;exact q_index ho hu hS hE h
  ·cases ht
 |slice t x lo hi mx=>
  cases mx with
  |some m=>cases ht
  |none=>
   have ht:transSlice P t x lo hi=some so:=ht
   unfold transSlice at ht
   split at ht
   ·rename_i e hu
    obtain⟨n,hn,rfl⟩:=Option.map_eq_some_iff.1 ht
    exact q_slice ho hu hn hS hE h
   ·rename_i hu;cases ht;exact q_sliceS ho hu hS hE h
   ·cases ht
 |field t x i=>
  have ht:transField P t x i=some so:=ht
  unfold transField at ht
  split at ht
  ·rename_i fs hu
   split at ht
   ·rename_i f hf
    split at ht
    ·rename_i d n hd hn
     split at ht
     ·rename_i h1;cases ht;exact q_field ho hu hf hd hn h1 hS hE h
     ·cases ht
    ·cases ht
   ·cases ht
  ·cases ht
 |extract x i=>cases ht;exact q_extract ho hS hE h
 |binOp op t x y u=>
  have ht:transBin P op t x y=some so:=ht
  have neg:∀{n:Bool},eqNeg op=some n->op=(if n then .neq else .eql):=by
   intro n hn;cases op<;>cases hn<;>rfl
  unfold transBin at ht
  split at ht
  ·split at ht
   ·rename_i hop;cases ht;exact q_bin ho (by cases op<;>first|(cases hop;done)|simp) hS hE h
   ·cases ht
  ·split at ht
   ·rename_i hop;cases ht;exact q_bin ho (by cases op<;>first|(cases hop;done)|simp) hS hE h
   ·cases ht
  ·rename_i hu
   obtain⟨n,hn,rfl⟩:=Option.map_eq_some_iff.1 ht
   exact q_eqb (neg:=n) (by rw[ho,neg hn]) hu hS hE h
  ·rename_i fs hu
   split at ht
   ·rename_i ks hf
    split at ht
    ·cases ht
    rename_i hg
    obtain⟨n,hn,rfl⟩:=Option.map_eq_some_iff.1 ht
    exact q_eqs (neg:=n) (by rw[ho,neg hn]) hu hf (by simpa using hg) hS hE h
   ·cases ht
  ·rename_i d hu
   split at ht
   ·rename_i k hk
    obtain⟨n,hn,rfl⟩:=Option.map_eq_some_iff.1 ht
    exact q_eqnil (neg:=n) (by rw[ho,neg hn]) hu hk hS hE h
   ·cases ht
  ·cases ht
 |unOp op t x=>
  cases op<;>first
   |(cases ht;done)
   |(cases ht;exact q_not ho hS hE h)
 |convert s d x=>
  have ht:transConv P s d x=some so:=ht
  unfold transConv at ht
  split at ht
  ·rename_i j k hs hd;cases ht;exact q_conv ho hs hd hS hE h
  ·rename_i hs hd;cases ht;exact q_str ho hs hd hS hE h
  ·cases ht
 |makeFunc fn first cap=>cases ht;exact q_mkfun ho hS hE h
 |alloc e=>
  have ht:(zeroT P e).map (.alloc e ·)=some so:=ht
  obtain⟨n,hn,rfl⟩:=Option.map_eq_some_iff.1 ht;exact h.elim
 |box e x=>
  have ht:(sizeT P e).map (.box e · (SOpd.of x))=some so:=ht
  obtain⟨n,hn,rfl⟩:=Option.map_eq_some_iff.1 ht;exact h.elim
 |store t x y=>
  have ht:(sizeT P t).map (.store · (SOpd.of x) (SOpd.of y))=some so:=ht
  obtain⟨n,hn,rfl⟩:=Option.map_eq_some_iff.1 ht;exact h.elim
 |buildSlice t len parts=>
  have ht:transBuildS P t len parts=some so:=ht
  unfold transBuildS at ht
  split at ht
  ·split at ht
   ·split at ht
    ·cases ht;exact h.elim
    ·cases ht
   ·cases ht
  ·cases ht
 |call c=>
  obtain⟨callee,args,argTypes⟩:=c
  cases callee with
  |invoke r m=>cases ht;exact h.elim
  |value f=>cases ht;exact h.elim
  |builtin b=>
   have ht:transBuiltin P b args.toList argTypes.toList=some so:=ht
   unfold transBuiltin at ht
   split at ht
   ·rename_i x t e1 e2 _e3
    have e1':args=#[x]:=by apply Array.ext';simpa using e1
    have e2':argTypes=#[t]:=by apply Array.ext';simpa using e2
    subst e1' e2'
    split at ht
    ·rename_i hu;cases ht;exact q_lenS ho hu hS hE h
    ·rename_i e hu;cases ht;exact q_len ho hu hS hE h
    ·cases ht
   ·split at ht
    ·split at ht
     ·split at ht
      ·cases ht;exact h.elim
      ·cases ht
     ·cases ht
    ·cases ht
   ·cases ht
 |_=>cases ht
end
end Go.Av
