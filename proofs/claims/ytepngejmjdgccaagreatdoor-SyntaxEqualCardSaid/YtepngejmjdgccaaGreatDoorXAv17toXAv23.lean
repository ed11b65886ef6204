/-
  ABSTRACT VALUES, 17: which slots are still read; a function's code by its number.
-/
import Derived.Test.YtepngejmjdgccaaGreatDoorXAv16
import Derived.Lib.Builder
import Derived.Laws.IdiomStrings
import Derived.Laws.CopyRow
import Derived.Laws.MakeOwn
import Derived.Laws.OwnMore
import Derived.Lib.BufferRead
namespace Go.Av
open Go Go.RowKit
set_option linter.unusedSimpArgs false
set_option linter.unusedVariables false
/-! ### slots still read -/
def insN (n:Nat):List Nat->List Nat
 |[]=>[n]
 |m::l=>if n<m then n::m::l else if n==m then m::l else m::insN n l
def uniN (xs ys:List Nat):List Nat:=xs.foldr insN ys
def delN (d:Option Nat) (l:List Nat):List Nat:=match d with
 |none=>l
 |some d=>l.filter λm=>!(m==d)
def opdR:Operand->List Nat
 | .tmp t=>[t]
 |_=>[]
def opdsR (xs:List Operand):List Nat:=xs.flatMap opdR
def opR (op:Op):List Nat:=opdsR op.operands.toList
def opersR (ops:Array Oper):List Oper->List Nat->List Nat
 |[],l=>l
 |o::rest,l=>uniN (opR o.op++(match o.guard with
  |none=>[]
  |some (j,_)=>(((ops[j]?).bind (·.dst)).map λd=>[d]).getD [])) (delN o.dst (opersR ops rest l))
def exitR (es:List (Nat×List Nat)) (id:Nat):List Nat:=((es.find? λp=>p.1==id).map (·.2)).getD []
def liveC (ret:List Nat):Code->List (Nat×List Nat)->List Nat->List Nat×List (Nat×List Nat)
 | .skip,_,l=>(l,[])
 | .region id ops _,_,l=>(opersR ops ops.toList l,[(id,l)])
 | .seq a b,es,l=>
  let rb:=liveC ret b es l
  let ra:=liveC ret a es rb.1
  (ra.1,ra.2++rb.2)
 | .cond c a b,es,l=>
  let ra:=liveC ret a es l
  let rb:=liveC ret b es l
  (uniN (opdR c) (uniN ra.1 rb.1),ra.2++rb.2)
 | .block id a,es,l=>
  let r:=liveC ret a ((id,l)::es) l
  (r.1,(id+1000000,l)::r.2)
 | .loop a,es,_=>
  let r:=liveC ret a es []
  liveC ret a es r.1
 | .exit id,es,_=>(exitR es id,[])
 | .ret,_,_=>(ret,[])
 |_,_,l=>(l,[])
def keepOf (g:List Nat) (ks:List (Nat×List Nat)) (id:Nat):List Nat×Bool:=(exitR ks id,g.contains id)
def fnCode (P:Program) (g:List Nat) (fn:Func):Option (List (Nat×Option (Bool×Nat))×SCode):=
 if fn.name== "runtime.NumGoroutine" then none else
 match fn.body,resSlots P fn.results.toList with
 |some c,some ts=>(trans P fn.ntmps (keepOf g (liveC (ts.foldr (λp l=>insN p.1 l) []) c [] (ts.foldr (λp l=>insN p.1 l) [])).2) c).map (ts,·)
 |_,_=>none
def fnAt (P:Program) (k:Nat) (g:List Nat):Option (List (Nat×Option (Bool×Nat))×SCode):=(P.funcs[k]?).bind (fnCode P g)
theorem FnSpec.at {G:Glob} {P:Program} {k:Nat} {g:List Nat} {ts:List (Nat×Option (Bool×Nat))} {s:SCode} {args:List AV} {σ:Store} {R:AV->Store->Prop} (hk:fnAt P k g=some (ts,s))
  (h:swp G P s (retQ ts R) (argEnv 0 args) σ):FnSpec G P k args σ R:=by
 unfold fnAt at hk
 cases hf:P.funcs[k]? with
 |none=>rw[hf]at hk;cases hk
 |some fn=>
  rw[hf]at hk
  have hk:fnCode P g fn=some (ts,s):=hk
  unfold fnCode at hk
  split at hk
  ·cases hk
  ·rename_i hn
   split at hk
   ·rename_i c ts' hb hr
    obtain⟨s',hs,he⟩:=Option.map_eq_some_iff.1 hk
    cases he
    exact FnSpec.intro hf (by simpa using hn) hb hr hs h
   ·cases hk
section
variable {G:Glob} {P:Program} {env:Env} {σ:Store} {R:AV->Store->Prop} {KL:List AV->Prop} {tL:Tag KL}
def RX (ts:List (Nat×Option (Bool×Nat))) (env:Env) (σ:Store) (K:List AV->Prop) (_t:Tag K):Prop:=retX ts env σ K
theorem retQ_ret {ts:List (Nat×Option (Bool×Nat))}:retQ ts R .ret env σ=RX ts env σ (λxs=>RET (oneOrTup xs) σ R) ⟨⟩:=(rfl)
theorem retQ_normal {ts:List (Nat×Option (Bool×Nat))}:retQ ts R .normal env σ=RX ts env σ (λxs=>RET (oneOrTup xs) σ R) ⟨⟩:=(rfl)
theorem RX_nil:RX [] env σ KL tL=KL []:=(rfl)
theorem RX_tmp {t:Nat} {rs:List (Nat×Option (Bool×Nat))}:RX ((t,none)::rs) env σ KL tL=RX rs env σ (λxs=>KL (env.get t::xs)) ⟨⟩:=(rfl)
theorem RX_cell {t n:Nat} {agg:Bool} {rs:List (Nat×Option (Bool×Nat))}:
  RX ((t,some (agg,n))::rs) env σ KL tL=loadX_ σ agg n (env.get t) (λx=>RX rs env σ (λxs=>KL (x::xs)) ⟨⟩) ⟨⟩:=(rfl)
theorem one_nil:oneOrTup []= .tup []:=(rfl)
theorem one_one {x:AV}:oneOrTup [x]=x:=(rfl)
theorem one_two {x y:AV} {xs:List AV}:oneOrTup (x::y::xs)= .tup (x::y::xs):=(rfl)
theorem argEnv_nil {i:Nat}:argEnv i []=[]:=(rfl)
theorem argEnv_cons {i:Nat} {x:AV} {xs:List AV}:argEnv i (x::xs)=(i,x)::argEnv (i+1) xs:=(rfl)
theorem Pure.w {k:Nat} {g:List Nat} {ts:List (Nat×Option (Bool×Nat))} {s:SCode} {args:List AV} {r:AV} (hk:fnAt P k g=some (ts,s))
  (h:∀R:AV->Store->Prop,(∀x σ,AVle x r->RET x σ R)->W G P s (retQ ts R) (argEnv 0 args) [] ⟨⟩):Pure G P k args r:=
 FnSpec.at (R:=λx σ=>x=r/\σ=[]) hk (h (λx σ=>x=r/\σ=[]) λ_ σ hx=>⟨r,[],hx,⟨(λp hp=>by cases hp),λ_=>List.nodup_nil⟩,⟨rfl,rfl⟩⟩)
theorem RET.eq {x:AV} {r:AV} {R:AV->Store->Prop} {σ:Store} (hR:∀x σ,AVle x r->RET x σ R) (h:x=r):RET x σ R:=hR _ _ (h ▸ AVle.rfl' _)
end
section
variable {G:Glob} {P:Program}
theorem Ev.below {w w':World} (h:Below w.heap.size w w'):Ev [] w [] w' where
 os:=h.os
 tape:=h.tape
 output:=h.output
 size:=h.size
 block b hb _:=⟨h.block b hb,by simp[Store.keys]⟩
 shape b s hs:=by
  have hb:b<w.heap.size:=by
   unfold World.shape? at hs
   cases hx:w.heap[b]? with
   |none=>simp[hx]at hs
   |some o=>exact(Array.getElem?_eq_some_iff.1 hx).1
  unfold World.shape? at*
  rw[h.block b hb]
  exact hs
 cell a v hv _:=by
  have hb:=lt_of_cell hv
  refine⟨?_,λm=>by obtain⟨x,hx,_⟩:=m;simp at hx⟩
  rw[World.cell?_of_block (w:=w) (h.block a.block hb)]
  exact hv
theorem Sat.below {ρ:Store} {w w':World} (hS:Sat G ρ w) (h:Below w.heap.size w w'):Sat G ρ w':=by
 have:=Sat.step (σ:=[]) (σ':=[]) (ρ:=ρ) (by simpa using hS) (Ev.below h) (by simp[Store.keys]) (by simp[Store.keys]) (by simp)
 simpa using this
theorem Pure.of_calls {k:FuncId} {fn:Func} {args:List AV} {r:AV} (hf:P.funcs[k]? =some fn) (hn:(fn.name== "runtime.NumGoroutine")=false) (hb:fn.body.isNone=false)
  (h:∀(τ:Store) (w:World) (vs:Array Value),Sat G τ w->RepL τ w args vs.toList->∃v,(∀τ' w',Rep τ' w' r v)/\Calls P k vs w λe w'=>e= .returned v/\Below w.heap.size w w'):Pure G P k args r:=
 ⟨⟨fn,hf,hn,hb⟩,λρ w vs hS hA=>by
  obtain⟨v,hr,hc⟩:=h _ w vs hS hA
  refine hc.mono ?_
  rintro e w' ⟨rfl,hB⟩
  exact⟨v,r,[],rfl,⟨rfl,rfl⟩,by simpa using Sat.below (by simpa using hS) hB,Ev.below hB,hr _ _⟩⟩
theorem vs_two {τ:Store} {w:World} {x y:AV} {vs:Array Value} (h:RepL τ w [x,y] vs.toList):∃u v,vs=#[u,v]/\Rep τ w x u/\Rep τ w y v:=by
 simp only[RepL]at h
 obtain⟨u,us,h1,h2,v,vs',h3,h4,h5⟩:=h
 subst h5 h3
 exact⟨u,v,by apply Array.ext';simpa using h1,h2,h4⟩
theorem RAW_quiet {op:Op} {env:Env} {σ:Store} {K:AV->Store->Prop} (r:AV)
  (h:∀(ρ:Store) (w:World) (a:Act) (o:Oper),o.op=op->Sat G (σ++ρ) w->(∀j,Rep (σ++ρ) w (env.get j) (a.tmps.getD j undef))->∃v,(execOp a.eval o).run P w= .ok (.value v) w/\Rep (σ++ρ) w r v) (hk:K r σ):RAW G P op env σ K ⟨⟩:=by
 intro ρ w a o ho hS hE
 obtain⟨v,hr,hv⟩:=h ρ w a o ho hS hE
 exact⟨v,w,r,σ,.inl hr,hk,hS,Ev.refl σ w,hv⟩
end
def StLe:Store->Store->Prop
 |[],[]=>True
 |(b,.cells e cs)::σ,(b',.cells e' cs')::σ'=>b=b'/\e=e'/\AVleL cs cs'/\StLe σ σ'
 |(b,x)::σ,(b',x')::σ'=>b=b'/\x=x'/\StLe σ σ'
 |_,_=>False
theorem StLe.keys:∀{σ σ':Store},StLe σ σ'->σ'.keys=σ.keys
 |[],[],_=>rfl
 |(b,.cells e cs)::σ,(b',.cells e' cs')::σ',h=>by
  obtain⟨rfl,_,_,h⟩:=h
  have:=StLe.keys h
  simp only[Store.keys]at this
  simp[Store.keys,this]
 |(b,.tok e k)::σ,(b',x')::σ',h=>by
  have h:b=b'/\_/\StLe σ σ':=h
  have:=StLe.keys h.2.2
  simp only[Store.keys]at this
  simp[Store.keys,this,h.1]
 |(b,.map es)::σ,(b',x')::σ',h=>by
  have h:b=b'/\_/\StLe σ σ':=h
  have:=StLe.keys h.2.2
  simp only[Store.keys]at this
  simp[Store.keys,this,h.1]
 |(b,.cells e cs)::σ,(b',.tok _ _)::σ',h=>by
  have h:b=b'/\_/\StLe σ σ':=h
  cases h.2.1
 |(b,.cells e cs)::σ,(b',.map _)::σ',h=>by
  have h:b=b'/\_/\StLe σ σ':=h
  cases h.2.1
 |[],_::_,h=>h.elim
 |(_,.cells _ _)::_,[],h=>h.elim
 |(_,.tok _ _)::_,[],h=>h.elim
 |(_,.map _)::_,[],h=>h.elim
theorem StLe.back:∀{σ σ':Store},StLe σ σ'->∀{b:Nat} {x':AObj},(b,x')∈σ'->∃x,(b,x)∈σ/\(x=x'\/∃e cs cs',x= .cells e cs/\x'= .cells e cs'/\AVleL cs cs')
 |[],[],_,b,x',h=>by simp at h
 |(b,.cells e cs)::σ,(b',.cells e' cs')::σ',h,c,x',hm=>by
  obtain⟨rfl,rfl,hl,h⟩:=h
  rcases List.mem_cons.1 hm with e1|hm
  ·cases e1
   exact⟨_,List.mem_cons_self ..,.inr ⟨_,_,_,rfl,rfl,hl⟩⟩
  ·obtain⟨x,hx,hr⟩:=StLe.back h hm
   exact⟨x,List.mem_cons_of_mem _ hx,hr⟩
 |(b,.tok e k)::σ,(b',y)::σ',h,c,x',hm=>by
  have h2:b=b'/\_=y/\StLe σ σ':=h
  obtain⟨rfl,rfl,h3⟩:=h2
  rcases List.mem_cons.1 hm with e1|hm
  ·cases e1;exact⟨_,List.mem_cons_self ..,.inl rfl⟩
  ·obtain⟨x,hx,hr⟩:=StLe.back h3 hm
   exact⟨x,List.mem_cons_of_mem _ hx,hr⟩
 |(b,.map es)::σ,(b',y)::σ',h,c,x',hm=>by
  have h2:b=b'/\_=y/\StLe σ σ':=h
  obtain⟨rfl,rfl,h3⟩:=h2
  rcases List.mem_cons.1 hm with e1|hm
  ·cases e1;exact⟨_,List.mem_cons_self ..,.inl rfl⟩
  ·obtain⟨x,hx,hr⟩:=StLe.back h3 hm
   exact⟨x,List.mem_cons_of_mem _ hx,hr⟩
 |(b,.cells e cs)::σ,(b',.tok _ _)::σ',h,_,_,_=>by
  have h:b=b'/\_/\StLe σ σ':=h
  cases h.2.1
 |(b,.cells e cs)::σ,(b',.map _)::σ',h,_,_,_=>by
  have h:b=b'/\_/\StLe σ σ':=h
  cases h.2.1
 |[],_::_,h,_,_,_=>h.elim
 |(_,.cells _ _)::_,[],h,_,_,_=>h.elim
 |(_,.tok _ _)::_,[],h,_,_,_=>h.elim
 |(_,.map _)::_,[],h,_,_,_=>h.elim
theorem StLe.mut {σ σ':Store} (h:StLe σ σ') {b o:Nat} (m:Mut σ' b o):Mut σ b o:=by
 obtain⟨x',hx',hm⟩:=m
 obtain⟨x,hx,rfl|⟨e,cs,cs',rfl,rfl,_⟩⟩:=h.back hx'
 ·exact⟨_,hx,hm⟩
 ·exact⟨_,hx,trivial⟩
theorem StLe.ev {σ σ':Store} (h:StLe σ σ') (w:World):Ev σ w σ' w:=
 ⟨rfl,rfl,rfl,Nat.le_refl _,λ_ _ hn=>⟨rfl,λhb=>hn (by rw[h.keys]at hb;exact hb)⟩,λ_ _ h=>h,λ_ _ hv hm=>⟨hv,λm=>hm (h.mut m)⟩⟩
theorem StLe.sat {G:Glob} {σ σ' ρ:Store} {w:World} (h:StLe σ σ') (hS:Sat G (σ++ρ) w):Sat G (σ'++ρ) w:=by
 refine Sat.step hS (h.ev w) ?_ (λb hb=>.inl (by rw[h.keys]at hb;exact hb)) (λb x' hx'=>?_)
 ·have:=hS.nodup
  rw[keys_append]at this
  rw[h.keys]
  exact(List.nodup_append.1 this).1
 ·obtain⟨x,hx,hr⟩:=h.back hx'
  have ho:=hS.obj b x (List.mem_append.2 (.inl hx))
  have ev:∀{xs us},RepL (σ++ρ) w xs us->RepL (σ'++ρ) w xs us:=λhr=>RepL.ev (h.ev w) _ _ hr
  rcases hr with rfl|⟨e,cs,cs',rfl,rfl,hl⟩
  ·cases x with
   |cells e cs=>obtain⟨vs,h1,h2,h3⟩:=ho;exact⟨vs,h1,h2,ev h3⟩
   |tok e k=>exact ho
   |map es=>obtain⟨ents,c,h1,h2,h3⟩:=ho;exact⟨ents,c,h1,h2,ev h3⟩
  ·obtain⟨vs,h1,h2,h3⟩:=ho
   exact⟨vs,h1,h2,hl.rep (ev h3)⟩
theorem Weak.st {G:Glob} {env:Env} {σ σ':Store} (hs:StLe σ σ'):Weak G env σ env σ':=λρ w _ hS hE=>⟨hs.sat hS,hs.ev w,λj=>Rep.ev (hs.ev w) _ _ (hE j)⟩
def byteRows (t:List UInt8):List (List AV):=t.map λc=>[.int .u8 c.toNat]
theorem byteRows_len (t:List UInt8):(byteRows t).length=t.length:=by simp[byteRows]
section
variable {G:Glob} {P:Program}
theorem byteRows_cells {τ:Store} {w:World} {a:Addr} {l:List UInt8} (h:RepRows τ w a 1 0 (byteRows l)) (j:Nat) (hj:j<l.length):w.cell? (a.add j)=some (.int .u8 l[j].toNat)/\¬Mut τ a.block (a.off+j):=by
 have h7:=h.get j (by rw[byteRows_len];exact hj)
 have e:(byteRows l)[j]'(by rw[byteRows_len];exact hj)=[.int .u8 (l[j]).toNat]:=by simp[byteRows]
 rw[e]at h7
 obtain⟨_,h7⟩:=h7
 simp only[RepAt]at h7
 obtain⟨⟨u,h8,_,h9⟩,_⟩:=h7
 simp only[Rep]at h9
 subst h9
 have h1:=h8.1
 have h2:=h8.2
 rw[add_block,add_off]at h2
 simp only[Nat.zero_add,Nat.mul_one]at h1 h2
 exact⟨h1,h2⟩
theorem byteRows_rep {τ:Store} {w:World} {b:Nat} {l:List UInt8} (h:∀j (hj:j<l.length),w.cell? ⟨b,j,none⟩=some (.int .u8 l[j].toNat)/\¬Mut τ b j):RepRows τ w ⟨b,0,none⟩ 1 0 (byteRows l):=by
 refine RepRows.of_get λj hj=>?_
 rw[byteRows_len]at hj
 have e:(byteRows l)[j]'(by rw[byteRows_len];exact hj)=[.int .u8 (l[j]).toNat]:=by simp[byteRows]
 rw[e]
 refine⟨rfl,?_⟩
 simp only[RepAt]
 refine⟨⟨.int .u8 l[j].toNat,?_,rfl,by simp only[Rep]⟩,trivial⟩
 rw[add_lit]
 simpa[Fixed]using h j hj
theorem RAW_bytesStr {src dst elem:TypeId} {i:Nat} {l:List UInt8} {env:Env} {σ:Store} {K:AV->Store->Prop} (hi:AVle (env.get i) (.lst 1 (byteRows l)))
  (hs:P.underlying src=some (.slice elem)) (he:P.underlying elem=some (.int .u8)) (hd:P.underlying dst=some .string) (hk:K (.str l) σ):RAW G P (.convert src dst (.tmp i)) env σ K ⟨⟩:=by
 refine RAW_quiet _ (λρ w a op ho hS hE=>?_) hk
 have h1:=hi.rep (hE i)
 simp only[Rep]at h1
 refine⟨.string ⟨l.toArray⟩,?_,by simp only[Rep]⟩
 rcases h1 with⟨h1,h2⟩|⟨ad,cap,h1,_,_,h3⟩
 ·have h4:l=[]:=by simpa[byteRows]using h2
  subst h4
  have e3:a.eval (.tmp i)= .slice none 0 0:=h1
  have h5:=Lib.run_convert_nil_bytes (P:=P) w src dst elem 0 hs he hd
  simp[execOp,ho,e3,h5]
 ·rw[byteRows_len]at h1
  have e3:a.eval (.tmp i)= .slice (some ad) l.length cap:=h1
  have:=run_convert_bytes_back (P:=P) w src dst elem ad cap l hs he hd (λj hj=>(byteRows_cells h3 j hj).1)
  simp[execOp,ho,e3,this]
theorem RAW_strBytes {src dst elem:TypeId} {i:Nat} {l:List UInt8} {env:Env} {σ:Store} {K:AV->Store->Prop} (hi:env.get i= .str l) (hlen:l.length<1000000000)
  (hs:P.underlying src=some .string) (hd:P.underlying dst=some (.slice elem)) (he:P.underlying elem=some (.int .u8)) (hk:K (.lst 1 (byteRows l)) σ):RAW G P (.convert src dst (.tmp i)) env σ K ⟨⟩:=by
 intro ρ w a op ho hS hE
 have h1:=hE i
 rw[hi]at h1
 simp only[Rep]at h1
 have e3:a.eval (.tmp i)= .string ⟨⟨l⟩⟩:=h1
 have hrun:=run_bytes_of_string (P:=P) w src dst elem ⟨⟨l⟩⟩ hs hd he
 have hge:=grownCap_ge w l.length 0 elem
 have hcm:=grownCap_le_maxLen w l.length 0 elem (by unfold maxLen;omega)
 generalize hcp:grownCap w l.length 0 elem=cp at*
 have hsz:(⟨⟨l⟩⟩:ByteArray).size=l.length:=rfl
 rw[hsz]at hrun
 rw[hcp]at hrun
 have hev:Ev σ w σ (w.drew.alloc (.cells (bytesRow ⟨⟨l⟩⟩ cp) elem ((bytesRow ⟨⟨l⟩⟩ cp).size,(bytesRow ⟨⟨l⟩⟩ cp).size+1))):=Ev.trans Ev.drew (Ev.alloc0 _)
 have hlt:∀b x,(b,x)∈σ++ρ->b<w.heap.size:=λb x hx=>(hS.obj b x hx).lt
 refine⟨_,_,.lst 1 (byteRows l),σ,.inl (by simp[execOp,ho,e3,hrun];rfl),hk,?_,hev,?_⟩
 ·refine hS.step hev hS.nodup_left (λb hb=>.inl hb) (λb x hx=>(hS.obj b x (List.mem_append.2 (.inl hx))).keep hev ?_)
  exact Below.heap_alloc _ _ b (hlt b x (List.mem_append.2 (.inl hx)))
 ·simp only[Rep]
  right
  rw[byteRows_len]
  refine⟨_,_,rfl,hge,hcm,byteRows_rep λj hj=>⟨?_,?_⟩⟩
  ·have hb:(w.drew.alloc (.cells (bytesRow ⟨⟨l⟩⟩ cp) elem ((bytesRow ⟨⟨l⟩⟩ cp).size,(bytesRow ⟨⟨l⟩⟩ cp).size+1))).heap[w.heap.size]? =some (.cells (bytesRow ⟨⟨l⟩⟩ cp) elem ((bytesRow ⟨⟨l⟩⟩ cp).size,(bytesRow ⟨⟨l⟩⟩ cp).size+1)):=by
    show(w.heap.push _)[w.heap.size]? =_
    simp
   simp only[World.cell?,hb]
   have:=bytesRow_at ⟨⟨l⟩⟩ cp j hj
   simpa using this
  ·rintro⟨x,hx,_⟩
   exact Nat.lt_irrefl _ (hlt _ _ hx)
end
section
variable {G:Glob}
end
section
theorem wrap_i64 {x:Int} (h1: -9223372036854775808<=x) (h2:x<9223372036854775808):IntKind.i64.wrap x=x:=by
 have:=IntWalk.i64_in x ⟨h1,by omega⟩
 exact this
theorem natBeq (n:Nat):(n==n)=true:=by simp
set_option linter.defProp false
def EV5:=(And.intro (And.intro (And.intro (And.intro (And.intro @List.contains_cons.{0} @List.contains_nil.{0}) (And.intro @Bool.or_false @Bool.false_or)) (And.intro (And.intro @Bool.or_true @Bool.true_or) (And.intro @Bool.not_true (And.intro @Bool.not_false @List.map_cons.{0,0})))) (And.intro (And.intro (And.intro @List.map_nil.{0,0} @retQ_ret) (And.intro @retQ_normal @RX_nil)) (And.intro (And.intro @RX_tmp @RX_cell) (And.intro @one_nil (And.intro @one_one @one_two))))) (And.intro (And.intro (And.intro (And.intro @argEnv_nil @argEnv_cons) (And.intro @List.length_cons.{0} @List.length_nil.{0})) (And.intro (And.intro @List.cons_append.{0} @List.nil_append.{0}) (And.intro @List.drop_succ_cons.{0} (And.intro @List.drop_zero.{0} @List.drop_nil.{0})))) (And.intro (And.intro (And.intro @List.take_succ_cons.{0} @List.take_zero.{0}) (And.intro @List.headD_cons.{0} @true_and)) (And.intro (And.intro @and_true @Nat.le_refl) (And.intro @List.getD_cons_zero.{0} (And.intro @List.getD_cons_succ.{0} @natBeq))))))
def EV6:=(And.intro (And.intro (And.intro (And.intro @decide_true @decide_false) (And.intro @Nat.zero_add @Nat.mul_one)) (And.intro (And.intro @Int.cast_ofNat_Int @Int.toNat_zero) (And.intro @Bool.true_eq_false @Bool.false_eq_true))) (And.intro (And.intro (And.intro @not_true_eq_false @not_false_eq_true) (And.intro @wrap_i64 @ne_eq)) (And.intro (And.intro @Option.map_some @Bool.true_and) (And.intro @Bool.and_true (And.intro @Bool.false_and @Bool.and_false)))))
end
end Go.Av
