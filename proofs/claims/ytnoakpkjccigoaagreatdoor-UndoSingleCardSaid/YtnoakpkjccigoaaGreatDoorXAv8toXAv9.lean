/-
  ABSTRACT VALUES, 8: the rest of the operations that leave memory as it is.
-/
import Derived.Test.YtnoakpkjccigoaaGreatDoorXAv5toXAv7
namespace Go.Av
open Go Go.RowKit List
set_option linter.unusedSimpArgs false
set_option linter.unusedVariables false
theorem aY:∀(l:List AV) (o:Nat) (c:List AV),o+c.length<=l.length->aH l o c=l.take o++c++l.drop (o+c.length)
 |l,0,c,_=>by cases l<;>simp[aH]
 |[],o+1,c,h=>by simp at h
 |x::l,o+1,c,h=>by
  have:=aY l o c (by simp at h;omega)
  simp only[aH,this,take_succ_cons,cons_append]
  rw[show o+1+c.length=(o+c.length)+1 by omega,drop_succ_cons]
theorem kX (o:Nat):∀(vs:List Value) (i:Nat) (C:Array Value),o+i+vs.length<=C.size->
  ((vs.zipIdx i).foldl (λcs (x:Value×Nat)=>cs.setIfInBounds (o+x.2) x.1) C).toList=C.toList.take (o+i)++vs++C.toList.drop (o+i+vs.length)
 |[],i,C,_=>by simp
 |v::vs,i,C,h=>by
  simp only[zipIdx_cons,foldl_cons]
  rw[kX o vs (i+1) (C.setIfInBounds (o+i) v) (by simp at h ⊢;omega)]
  have hi:o+i<C.toList.length:=by simp at h ⊢;omega
  simp only[Array.toList_setIfInBounds,length_cons]
  rw[←Nat.add_assoc,show o+i+1+vs.length=o+i+(vs.length+1)by omega]
  rw[drop_set_of_lt (by omega),take_add_one,getElem?_set_self hi,take_set_of_le (Nat.le_refl _)]
  simp
section
variable {G:Glob} {P:Program} {τ:Store} {w:World} {env:Env} {a:Act} {o:Oper} {K:AV->Prop}
theorem gA {x:AV} {v:Value} {c:List AV} (hc:AV.cells? x=some c) (h:Rep τ w x v):RepL τ w c v.cells.toList/\∀u∈v.cells.toList,u.oneCell'=true:=by
 have ez:∀y:AV,Rep τ w y v->v.oneCell'=true->v.cells=#[v]->RepL τ w [y] v.cells.toList/\∀u∈v.cells.toList,u.oneCell'=true:=by
  intro y hy h1 h2
  rw[h2]
  exact⟨by simp only[RepL];exact⟨v,[],rfl,hy,rfl⟩,by simpa using h1⟩
 cases x with
 |any=>simp[AV.cells?]at hc
 |tup cs=>simp[AV.cells?]at hc
 |agg cs=>
  simp[AV.cells?]at hc
  subst hc
  simp only[Rep]at h
  obtain⟨vs,rfl,h1,h2⟩:=h
  exact⟨by simpa[Value.cells]using h2,by simpa[Value.cells]using h1⟩
 |sc u=>
  simp only[AV.cells?]at hc
  split at hc
  ·rename_i h1
   cases hc
   have h':=h
   simp only[Rep]at h'
   subst h'
   refine ez _ h h1 ?_
   cases v<;>first|rfl|exact absurd h1 (by simp[Value.oneCell'])
  ·cases hc
 |bool b=>
  simp[AV.cells?]at hc;subst hc
  have h':=h;simp only[Rep]at h';subst h'
  exact ez _ h rfl rfl
 |int k n=>
  simp[AV.cells?]at hc;subst hc
  have h':=h;simp only[Rep]at h';subst h'
  exact ez _ h rfl rfl
 |str s=>
  simp[AV.cells?]at hc;subst hc
  have h':=h;simp only[Rep]at h';subst h'
  exact ez _ h rfl rfl
 |nil=>
  simp[AV.cells?]at hc;subst hc
  have h':=h;simp only[Rep]at h';subst h'
  exact ez _ h rfl rfl
 |lst sz rows=>
  simp[AV.cells?]at hc;subst hc
  have h':=h;simp only[Rep]at h'
  rcases h' with⟨h',_⟩|⟨ad,cap,h',_⟩<;>subst h'<;>exact ez _ h rfl rfl
 |own b e sz rows=>
  simp[AV.cells?]at hc;subst hc
  have h':=h
  cases b with
  |none=>simp only[Rep]at h';obtain⟨h',_⟩:=h';subst h';exact ez _ h rfl rfl
  |some b=>simp only[Rep]at h';obtain⟨cap,h',_⟩:=h';subst h';exact ez _ h rfl rfl
 |ref cs=>
  simp[AV.cells?]at hc;subst hc
  have h':=h;simp only[Rep]at h'
  obtain⟨ad,h',_⟩:=h'
  subst h'
  exact ez _ h rfl rfl
theorem oU {cs c:List AV} {C:Array Value} {v:Value} {off n:Nat} (hC:RepL τ w cs C.toList) (hc:RepL τ w c v.cells.toList) (hn:c.length=n) (hle:off+n<=cs.length):
  RepL τ w (aH cs off c) (v.cells.zipIdx.foldl (λcs (x:Value×Nat)=>cs.setIfInBounds (off+x.2) x.1) C).toList:=by
 have l1:=hC.length
 have l2:=hc.length
 subst hn
 have e:=kX off v.cells.toList 0 C (by simp at l1 l2 ⊢;omega)
 rw[←Array.foldl_toList,Array.toList_zipIdx]
 rw[e,aY cs off c hle]
 simp only[Nat.add_zero]
 rw[l2]
 exact RepL.append (RepL.append (RepL.take _ hC) hc) (RepL.drop _ hC)
theorem kd (place:Nat->Option (Nat×Nat)):∀(parts:List (Nat×Operand)) (sparts:List (Nat×Nat×SOpd)) (cs:List AV) (C:Array Value) (KL:List AV->Prop),
  (∀(j:Nat) p q,parts[j]? =some p->sparts[j]? =some q->place p.1=some (q.1,q.2.1)/\q.2.2=SOpd.of p.2)->parts.length=sparts.length->
  Sat G τ w->(∀j,Rep τ w (env.get j) (a.tmps.getD j undef))->RepL τ w cs C.toList->(∀v∈C.toList,v.oneCell'=true)->ga G env cs sparts KL->
  ∃C' cs',Instr.fill place C (parts.map λp=>(p.1,a.eval p.2))=some C'/\KL cs'/\RepL τ w cs' C'.toList/\∀v∈C'.toList,v.oneCell'=true
 |[],[],cs,C,KL,_,_,_,_,hC,h1,h=>⟨C,cs,rfl,h,hC,h1⟩
 |p::parts,q::sparts,cs,C,KL,hp,hl,hS,hE,hC,h1,h=>by
  obtain⟨off,n,x⟩:=q
  obtain⟨hpl,hx⟩:=hp 0 p _ rfl rfl
  simp only at hpl hx
  subst hx
  simp only[ga,bU]at h
  split at h
  ·rename_i c hc
   obtain⟨hn,hle,h⟩:=h
   obtain⟨r1,r2⟩:=gA hc (ao hS hE p.2)
   have l1:=hC.length
   have l2:=r1.length
   have hs1:(a.eval p.2).cells.size=n:=by simp at l2;omega
   have hs2:off+(a.eval p.2).cells.size<=C.size:=by simp at l1;omega
   have hspl:=oU (w:=w) hC r1 hn hle
   obtain⟨C',cs',k1,k2,k3,k4⟩:=kd place parts sparts (aH cs off c) _ KL (λj p q h1 h2=>hp (j+1) p q h1 h2) (by simpa using hl) hS hE hspl (by
    rw[←Array.foldl_toList,Array.toList_zipIdx,kX off _ 0 C (by simp;omega)]
    intro v hv
    simp only[mem_append]at hv
    rcases hv with(hv|hv)|hv
    ·exact h1 v (mem_of_mem_take hv)
    ·exact r2 v hv
    ·exact h1 v (mem_of_mem_drop hv)) h
   refine⟨C',cs',?_,k2,k3,k4⟩
   simp only[map_cons,Instr.fill,hpl]
   rw[if_neg (by simp[hs1];omega)]
   exact k1
  ·exact h.elim
 |[],_::_,_,_,_,_,hl,_,_,_,_,_=>by simp at hl
 |_::_,[],_,_,_,_,hl,_,_,_,_,_=>by simp at hl
end
section
variable {G:Glob} {P:Program} {τ:Store} {w:World} {env:Env} {a:Act} {o:Oper} {K:AV->Prop}
theorem cG {t:TypeId} {z:List AV} (h:cK P t=some z):∃i v,P.info? t=some i/\i.zero=some v/\RepL τ w z v.cells.toList/\∀u∈v.cells.toList,u.oneCell'=true:=by
 unfold cK at h
 cases hi:P.info? t with
 |none=>simp[hi]at h
 |some i=>
  cases hz:i.zero with
  |none=>simp[hi,hz]at h
  |some v=>
   simp only[hi,hz,Option.bind_some]at h
   split at h
   ·rename_i h1
    cases h
    exact⟨i,v,rfl,hz,RepL.ofOnes τ w _,λu hu=>all_eq_true.1 h1 u hu⟩
   ·cases h
theorem kw {α β:Type} {f:α->Option β}:∀{l:List α} {r:List β},l.mapM f=some r->l.length=r.length/\∀(j:Nat) x y,l[j]? =some x->r[j]? =some y->f x=some y
 |[],r,h=>by simp at h;subst h;simp
 |x::l,r,h=>by
  rw[mapM_cons]at h
  cases hx:f x with
  |none=>simp[hx]at h
  |some y=>
   cases hr:l.mapM f with
   |none=>simp[hx,hr]at h
   |some r'=>
    simp[hx,hr]at h
    subst h
    obtain⟨h1,h2⟩:=kw hr
    refine⟨by simp[h1],λj u v hu hv=>?_⟩
    cases j with
    |zero=>simp at hu hv;subst hu hv;exact hx
    |succ j=>exact h2 j u v (by simpa using hu) (by simpa using hv)
theorem lQ {α β:Type} {f:α->Option β}:∀{l:List α},(∀x∈l,(f x).isSome=true)->∃r,l.mapM f=some r
 |[],_=>⟨[],rfl⟩
 |x::l,h=>by
  obtain⟨r,hr⟩:=lQ (l:=l) (λy hy=>h y (mem_cons_of_mem _ hy))
  obtain⟨y,hy⟩:=Option.isSome_iff_exists.1 (h x (by simp))
  exact⟨y::r,by simp[mapM_cons,hy,hr]⟩
theorem q_build {t:TypeId} {parts:Array (Nat×Operand)} {fs:Array Field} {z:List AV} {sparts:List (Nat×Nat×SOpd)} (ho:o.op= .build t parts) (hu:P.underlying t=some (.struct fs)) (hz:cK P t=some z)
  (hfs:(fs.toList.all λf=>(P.info? f.type).isSome)=true)
  (hm:(parts.toList.mapM λ(p:Nat×Operand)=>match fs[p.1]? with
    |some f=>(bj P f.type).map λn=>(f.offset,n,SOpd.of p.2)
    |none=>none)=some sparts)
  (hS:Sat G τ w) (hE:∀j,Rep τ w (env.get j) (a.tmps.getD j undef)) (h:ga G env z sparts λcs=>K (.agg cs)):QOk P τ w o a K:=by
 obtain⟨i,v,hi,hv,hr,h1⟩:=cG (τ:=τ) (w:=w) hz
 obtain⟨hl,hg⟩:=kw hm
 obtain⟨places,hpl⟩:=lQ (l:=fs.toList) (f:=λf=>(P.info? f.type).map λi=>(f.offset,i.size)) (λf hf=>by simpa using all_eq_true.1 hfs f hf)
 obtain⟨hl2,hg2⟩:=kw hpl
 obtain⟨C',cs',k1,k2,k3,k4⟩:=kd (G:=G) (λj=>places.toArray[j]?) parts.toList sparts z v.cells (λcs=>K (.agg cs)) (by
  intro j p q hp hq
  have:=hg j p q hp hq
  split at this
  ·rename_i f hf
   cases hn:bj P f.type with
   |none=>simp[hn]at this
   |some n=>
    simp only[hn,Option.map_some,Option.some.injEq]at this
    subst this
    have hlt:p.1<places.length:=by
     have:=(Array.getElem?_eq_some_iff.1 hf).1
     simp at hl2;omega
    have e:=hg2 p.1 f places[p.1] (by simpa using hf) (getElem?_eq_getElem hlt)
    simp only[bj]at hn
    cases hi2:P.info? f.type with
    |none=>simp[hi2]at hn
    |some i2=>
     simp[hi2]at hn e
     simp[hlt,←e,hn]
  ·cases this) hl hS hE hr h1 h
 have hb:P.built t ((parts.map λ(x:Nat×Operand)=>(x.1,a.eval x.2)).toList)=some C':=by
  unfold Program.built
  simp only[hi,hu,hv,hpl,Array.toList_map]
  exact k1
 exact⟨.agg cs',.agg C',k2,by simp only[Rep];exact⟨C',rfl,k4,k3⟩,λw' _=>by
  simp only[execOp,ho,Sem.run_bind,run_build w' t _ C' hb,Result.andThen_ok,Sem.run_pure]⟩
theorem oe {s:TypeId} {fs:Array Field} {f:Field} {i n:Nat} (hu:P.underlying s=some (.struct fs)) (hf:fs[i]? =some f) (hn:bj P f.type=some (n+1)) (ad:Addr) (w':World):
  (Instr.fieldAt s (.pointer (some ad)) i).run P w'= .ok (.pointer (some (ad.add f.offset))) w':=by
 simp[Instr.fieldAt,run_underlying hu,hf,Instr.sureAddr,fieldPlace,bv hn]
theorem lx {off:Nat} {x:AV} {u:Value} (hx:Rep τ w x u) (h:cQ off x K):∃r ad,u= .pointer (some ad)/\K r/\Rep τ w r (.pointer (some (ad.add off))):=by
 unfold cQ at h
 split at h
 ·simp only[Rep]at hx
  obtain⟨ad,hp,hr⟩:=hx
  exact⟨_,ad,hp,h,by simp only[Rep];exact⟨_,rfl,hr.drop off⟩⟩
 ·rename_i b p
  simp only[Rep]at hx
  exact⟨_,_,hx,h,by simp only[Rep];rw[add_lit]⟩
 ·exact h.elim
theorem q_fieldA {t:TypeId} {x:Operand} {fs:Array Field} {f:Field} {i n:Nat} (ho:o.op= .fieldAddr t x i) (hu:P.underlying t=some (.struct fs)) (hf:fs[i]? =some f) (hn:bj P f.type=some (n+1))
  (hS:Sat G τ w) (hE:∀j,Rep τ w (env.get j) (a.tmps.getD j undef)) (h:cQ f.offset ((SOpd.of x).eval G env) K):QOk P τ w o a K:=by
 obtain⟨r,ad,hp,hk,hr⟩:=lx (ao hS hE x) h
 exact⟨r,_,hk,hr,λw' _=>by simp[execOp,ho,hp,oe hu hf hn]⟩
theorem jS {x:AV} {u:Value} {KI:Int->Prop} (hx:Rep τ w x u) (h:intX x KI):∃k n,u= .int k n/\KI n:=by
 unfold intX at h
 split at h
 ·simp only[Rep]at hx
  exact⟨_,_,hx,h⟩
 ·exact h.elim
theorem lX {x:AV} {u:Value} {KR:Nat->List (List AV)->Prop} (hx:Rep τ w x u) (h:ja x KR):
  ∃sz rows,KR sz rows/\((u= .slice none 0 0/\rows=[])\/∃ad cap,u= .slice (some ad) rows.length cap/\rows.length<=cap/\cap<=maxLen/\ar τ w ad sz 0 rows):=by
 unfold ja at h
 split at h
 ·simp only[Rep]at hx
  exact⟨_,_,h,hx⟩
 ·rename_i g e sz rows
  cases g with
  |none=>simp only[Rep]at hx;exact⟨_,_,h,.inl hx⟩
  |some b=>
   simp only[Rep]at hx
   obtain⟨cap,h1,h2,h3,_,h5⟩:=hx
   exact⟨_,_,h,.inr ⟨_,cap,h1,h2,h3,h5⟩⟩
 ·exact h.elim
theorem q_indexA {t e:TypeId} {x i:Operand} {sz:Nat} (ho:o.op= .indexAddr t x i) (hu:P.underlying t=some (.slice e)) (hn:bj P e=some sz)
  (hS:Sat G τ w) (hE:∀j,Rep τ w (env.get j) (a.tmps.getD j undef)) (h:mB sz ((SOpd.of x).eval G env) ((SOpd.of i).eval G env) K):QOk P τ w o a K:=by
 unfold mB at h
 split at h
 ·rename_i b off len cap he
  have hx:=ao (G:=G) hS hE x
  rw[he]at hx
  simp only[Rep]at hx
  obtain⟨k,n,hi,h0,hlt,hk⟩:=jS (ao hS hE i) h
  refine⟨_,.pointer (some ⟨b,off+n.toNat*sz,none⟩),hk,by simp only[Rep],λw' _=>?_⟩
  simp[execOp,ho,hx,hi,Instr.indexAt,asIntOf,run_underlying hu,h0,hlt,bv hn,add_lit]
 obtain⟨sz',rows,⟨rfl,h⟩,hx⟩:=lX (ao hS hE x) h
 obtain⟨k,n,hi,h0,hlt,hk⟩:=jS (ao hS hE i) h
 rcases hx with⟨hx,hr⟩|⟨ad,cap,hx,hle,_,hr⟩
 ·subst hr;simp at hlt;omega
 ·have hlt':n.toNat<rows.length:=by omega
  refine⟨_,.pointer (some (ad.add (n.toNat*sz))),hk,?_,λw' _=>?_⟩
  ·simp only[Rep]
   refine⟨_,rfl,?_⟩
   have:=hr.ref n.toNat hlt'
   simpa[getD_eq_getElem?_getD,hlt']using this
  ·simp[execOp,ho,hx,hi,Instr.indexAt,asIntOf,run_underlying hu,h0,hlt,bv hn]
theorem q_indexP {t e:TypeId} {x i:Operand} {sz len:Nat} (ho:o.op= .indexAddr t x i) (hu:P.underlying t=some (.array len e)) (hn:bj P e=some sz)
  (hS:Sat G τ w) (hE:∀j,Rep τ w (env.get j) (a.tmps.getD j undef)) (h:indexPX len sz ((SOpd.of x).eval G env) ((SOpd.of i).eval G env) K):QOk P τ w o a K:=by
 obtain⟨k,n,hi,h0,hlt,h⟩:=jS (ao hS hE i) h
 obtain⟨r,ad,hp,hk,hr⟩:=lx (ao hS hE x) h
 refine⟨r,_,hk,hr,λw' _=>?_⟩
 simp[execOp,ho,hp,hi,Instr.indexAt,Instr.sureAddr,asIntOf,run_underlying hu,h0,hlt,bv hn]
theorem jK {x:AV} {u:Value} {KS:List UInt8->Prop} (hx:Rep τ w x u) (h:strX x KS):∃s,u= .string ⟨⟨s⟩⟩/\KS s:=by
 unfold strX at h
 split at h
 ·simp only[Rep]at hx
  exact⟨_,hx,h⟩
 ·exact h.elim
theorem iL (s:List UInt8):(ByteArray.mk (Array.mk s)).size=s.length:=rfl
theorem mW (s:List UInt8) (i:Nat):(ByteArray.mk (Array.mk s))[i]? =s[i]? :=by
 by_cases h:i<s.length
 ·rw[ByteArray.getElem?_lt' _ _ (by rw[iL];exact h),getElem?_eq_getElem h];rfl
 ·rw[ByteArray.getElem?_ge' _ _ (by rw[iL];exact h),getElem?_eq_none (by omega)]
theorem q_index {t:TypeId} {x i:Operand} (ho:o.op= .index t x i) (hu:P.underlying t=some .string)
  (hS:Sat G τ w) (hE:∀j,Rep τ w (env.get j) (a.tmps.getD j undef)) (h:charX ((SOpd.of x).eval G env) ((SOpd.of i).eval G env) K):QOk P τ w o a K:=by
 obtain⟨s,hx,h⟩:=jK (ao hS hE x) h
 obtain⟨k,n,hi,h0,hlt,hk⟩:=jS (ao hS hE i) h
 have hlt':n.toNat<s.length:=by omega
 refine⟨_,.int .u8 ((s.getD n.toNat 0).toNat),hk,by simp only[Rep],λw' _=>?_⟩
 simp[execOp,ho,hx,hi,Instr.index,asIntOf,run_underlying hu,h0,mW,hlt',getD_eq_getElem?_getD]
theorem dP {env:Env} {d:Int} {x:Option Operand} {KI:Int->Prop} (hS:Sat G τ w) (hE:∀j,Rep τ w (env.get j) (a.tmps.getD j undef)) (h:eC G env d (x.map SOpd.of) KI):
  ∃n,KI n/\((x=none/\n=d)\/∃y k,x=some y/\a.eval y= .int k n):=by
 cases x with
 |none=>exact⟨d,h,.inl ⟨rfl,rfl⟩⟩
 |some y=>
  simp only[Option.map_some,eC]at h
  have hy:=ao (G:=G) hS hE y
  split at h
  ·rename_i k n he
   rw[he]at hy
   simp only[Rep]at hy
   exact⟨n,h,.inr ⟨y,k,rfl,hy⟩⟩
  ·exact h.elim
theorem ke {b:Bool} {len cap:Nat} {lo hi:Option Operand} {l h:Int} (h0:0<=l) (h1:l<=h) (h2:h<=cap) (_hlc:len<=cap)
  (hl:(lo=none/\l=0)\/∃y k,lo=some y/\a.eval y= .int k l) (hh:(hi=none/\h=len)\/∃y k,hi=some y/\a.eval y= .int k h) (w':World):
  (Instr.sliceBounds b len cap (lo.map a.eval) (hi.map a.eval) none).run P w'= .ok (l.toNat,h.toNat,cap) w':=by
 have bd:∀(k:IntKind) (i:Int) (y:Nat) (code:BoundsCode),0<=i->i<=y->(Instr.sliceBound (.int k i) y code).run P w'= .ok i.toNat w':=λk i y code a1 a2=>by
  simp[Instr.sliceBound,asIntOf,a1,a2]
 rcases hh with⟨rfl,rfl⟩|⟨y,k,rfl,hy⟩<;>rcases hl with⟨rfl,rfl⟩|⟨z,k2,rfl,hz⟩
 ·simp[Instr.sliceBounds]
 ·simp only[Option.map_none,Option.map_some,Instr.sliceBounds,hz]
  simp[bd k2 l len _ h0 (by omega)]
 ·simp only[Option.map_none,Option.map_some,Instr.sliceBounds,hy]
  simp[bd k h cap _ (by omega) h2]
 ·simp only[Option.map_some,Instr.sliceBounds,hy,hz]
  simp[bd k h cap _ (by omega) h2,bd k2 l h.toNat _ h0 (by omega)]
theorem q_sliceS {t:TypeId} {x:Operand} {lo hi:Option Operand} (ho:o.op= .slice t x lo hi none) (hu:P.underlying t=some .string)
  (hS:Sat G τ w) (hE:∀j,Rep τ w (env.get j) (a.tmps.getD j undef))
  (h:strX ((SOpd.of x).eval G env) λs=>eC G env 0 (lo.map SOpd.of) λl=>eC G env s.length (hi.map SOpd.of) λh=>0<=l/\l<=h/\h<=s.length/\K (.str ((s.take h.toNat).drop l.toNat))):QOk P τ w o a K:=by
 obtain⟨s,hx,h⟩:=jK (ao hS hE x) h
 obtain⟨l,h,hl⟩:=dP hS hE h
 obtain⟨m,⟨h0,h1,h2,hk⟩,hh⟩:=dP hS hE h
 have hb:=λw'=>ke (P:=P) (b:=false) (len:=s.length) (cap:=s.length) h0 h1 h2 (Nat.le_refl _) hl hh w'
 refine⟨_,.string ⟨⟨(s.take m.toNat).drop l.toNat⟩⟩,hk,by simp only[Rep],λw' _=>?_⟩
 have e:(ByteArray.mk (Array.mk s)).extract l.toNat m.toNat=⟨⟨(s.take m.toNat).drop l.toNat⟩⟩:=by
  have:((ByteArray.mk (Array.mk s)).extract l.toNat m.toNat).data=⟨(s.take m.toNat).drop l.toNat⟩:=by
   rw[ByteArray.data_extract]
   apply Array.ext'
   simp[drop_take]
  generalize (ByteArray.mk (Array.mk s)).extract l.toNat m.toNat=b at*
  cases b;simp at this;simp[this]
 simp[execOp,ho,hx,Instr.sliceAt,run_underlying hu,Instr.slice,iL,hb,e]
theorem q_slice {t e:TypeId} {x:Operand} {lo hi:Option Operand} {sz:Nat} (ho:o.op= .slice t x lo hi none) (hu:P.underlying t=some (.slice e)) (hn:bj P e=some sz)
  (hS:Sat G τ w) (hE:∀j,Rep τ w (env.get j) (a.tmps.getD j undef)) (h:jF G env sz ((SOpd.of x).eval G env) (lo.map SOpd.of) (hi.map SOpd.of) K):QOk P τ w o a K:=by
 have hx:=ao (G:=G) hS hE x
 have run:∀(ad:Option Addr) (n cap:Nat) (l m:Int),a.eval x= .slice ad n cap->n<=cap->0<=l->l<=m->m<=cap->
   ((lo=none/\l=0)\/∃y k,lo=some y/\a.eval y= .int k l)->((hi=none/\m=n)\/∃y k,hi=some y/\a.eval y= .int k m)->
   ∀w',(execOp a.eval o).run P w'= .ok (.value (.slice (if cap=l.toNat then ad else ad.map (·.add (l.toNat*sz))) (m.toNat-l.toNat) (cap-l.toNat))) w':=by
  intro ad n cap l m hv hnc h0 h1 h2 hl hh w'
  have hb:=ke (P:=P) (a:=a) (b:=true) (len:=n) (cap:=cap) h0 h1 h2 hnc hl hh w'
  simp[execOp,ho,hv,Instr.sliceAt,run_underlying hu,Instr.slice,hb,bv hn]
 have main:ja ((SOpd.of x).eval G env) (λsz' rows=>eC G env 0 (lo.map SOpd.of) λl=>eC G env rows.length (hi.map SOpd.of) λh=>
   sz=sz'/\0<=l/\l<=h/\h<=rows.length/\K (.lst sz ((rows.take h.toNat).drop l.toNat)))->QOk P τ w o a K:=by
  intro h
  obtain⟨sz',rows,h,hx⟩:=lX hx h
  obtain⟨l,h,hl⟩:=dP hS hE h
  obtain⟨m,⟨rfl,h0,h1,h2,hk⟩,hh⟩:=dP hS hE h
  rcases hx with⟨hx,hr⟩|⟨ad,cap,hx,hle,hcm,hr⟩
  ·subst hr
   simp at h2
   obtain rfl:l=0:=by omega
   obtain rfl:m=0:=by omega
   refine⟨_,.slice none 0 0,hk,by simp[Rep],λw' _=>?_⟩
   rw[run none 0 0 0 0 hx (by omega) (by omega) (by omega) (by omega) hl hh w']
   simp
  ·refine⟨_,_,hk,?_,λw' _=>run (some ad) rows.length cap l m hx hle h0 h1 (by omega) hl hh w'⟩
   simp only[Rep]
   right
   have hlen:((rows.take m.toNat).drop l.toNat).length=m.toNat-l.toNat:=by simp;omega
   refine⟨if cap=l.toNat then ad else ad.add (l.toNat*sz),cap-l.toNat,?_,by omega,by omega,?_⟩
   ·rw[hlen];split<;>simp
   ·split
    ·rename_i hc
     have:(rows.take m.toNat).drop l.toNat=[]:=eq_nil_of_length_eq_zero (by omega)
     rw[this];simp only[ar]
    ·exact ar.drop l.toNat (ar.take m.toNat hr)
 unfold jF at h
 split at h
 ·rename_i hnil
  rw[hnil]at hx
  simp only[Rep]at hx
  obtain⟨l,h,hl⟩:=dP hS hE h
  obtain⟨m,⟨rfl,rfl,hk⟩,hh⟩:=dP hS hE h
  refine⟨_,.slice none 0 0,hk,by simp[Rep],λw' _=>?_⟩
  rw[run none 0 0 0 0 hx (by omega) (by omega) (by omega) (by omega) hl hh w']
  simp
 ·rename_i b off len cap hraw
  rw[hraw]at hx
  simp only[Rep]at hx
  obtain⟨l,h,hl⟩:=dP hS hE h
  obtain⟨m,⟨h0,h1,h2,h3,h4,hk⟩,hh⟩:=dP hS hE h
  refine⟨_,.slice (some ⟨b,off+l.toNat*sz,none⟩) (m.toNat-l.toNat) (cap-l.toNat),hk,by simp only[Rep],λw' _=>?_⟩
  rw[run (some ⟨b,off,none⟩) len cap l m hx h3 h0 h1 (by omega) hl hh w']
  rw[if_neg (show ¬cap=l.toNat by omega)]
  simp[add_lit]
 ·exact main h
theorem q_extract {x:Operand} {i:Nat} (ho:o.op= .extract x i) (hS:Sat G τ w) (hE:∀j,Rep τ w (env.get j) (a.tmps.getD j undef)) (h:tupX i ((SOpd.of x).eval G env) K):QOk P τ w o a K:=by
 have hx:=ao (G:=G) hS hE x
 unfold tupX at h
 split at h
 ·rename_i cs he
  rw[he]at hx
  simp only[Rep]at hx
  obtain⟨vs,hv,hr⟩:=hx
  have hl:=hr.length
  have hi:i<vs.size:=by simp at hl;omega
  have hg:=hr.get i h.1 (by simpa using hi)
  refine⟨_,vs[i],h.2,?_,λw' _=>?_⟩
  ·simpa[getD_eq_getElem?_getD,h.1]using hg
  ·simp[execOp,ho,hv,Instr.extract,hi]
 ·exact h.elim
theorem q_not {t:TypeId} {x:Operand} (ho:o.op= .unOp .not t x) (hS:Sat G τ w) (hE:∀j,Rep τ w (env.get j) (a.tmps.getD j undef)) (h:gX ((SOpd.of x).eval G env) λb=>K (.bool (!b))):QOk P τ w o a K:=by
 have hx:=ao (G:=G) hS hE x
 unfold gX at h
 split at h
 ·rename_i b he
  rw[he]at hx
  simp only[Rep]at hx
  exact⟨_,.bool (!b),h,by simp only[Rep],λw' _=>by simp[execOp,ho,hx,Op.unary]⟩
 ·exact h.elim
theorem q_conv {s d:TypeId} {x:Operand} {k j:IntKind} (ho:o.op= .convert s d x) (hs:P.underlying s=some (.int j)) (hd:P.underlying d=some (.int k))
  (hS:Sat G τ w) (hE:∀j,Rep τ w (env.get j) (a.tmps.getD j undef)) (h:convX k ((SOpd.of x).eval G env) K):QOk P τ w o a K:=by
 have hx:=ao (G:=G) hS hE x
 unfold convX at h
 split at h
 ·rename_i k' n he
  rw[he]at hx
  simp only[Rep]at hx
  exact⟨_,.int k (k.wrap n),h,by simp only[Rep],λw' _=>by simp[execOp,ho,hx,convert,run_underlying hs,run_underlying hd,Conv.intToInt]⟩
 ·exact h.elim
theorem q_str {s d:TypeId} {x:Operand} (ho:o.op= .convert s d x) (hs:P.underlying s=some .string) (hd:P.underlying d=some .string)
  (hS:Sat G τ w) (hE:∀j,Rep τ w (env.get j) (a.tmps.getD j undef)) (h:strX ((SOpd.of x).eval G env) λs=>K (.str s)):QOk P τ w o a K:=by
 obtain⟨l,hx,hk⟩:=jK (ao hS hE x) h
 exact⟨_,.string ⟨⟨l⟩⟩,hk,by simp only[Rep],λw' _=>by simp[execOp,ho,hx,convert,run_underlying hs,run_underlying hd]⟩
theorem q_lenS {t:TypeId} {x:Operand} (ho:o.op= .call {callee:=.builtin .len,args:=#[x],argTypes:=#[t]}) (hu:P.underlying t=some .string)
  (hS:Sat G τ w) (hE:∀j,Rep τ w (env.get j) (a.tmps.getD j undef)) (h:strX ((SOpd.of x).eval G env) λs=>K (.int .i64 s.length)):QOk P τ w o a K:=by
 obtain⟨s,hx,hk⟩:=jK (ao hS hE x) h
 exact⟨_,.int .i64 s.length,hk,by simp only[Rep],λw' _=>by simp[execOp,ho,resolve,invoke,builtin,hx,Builtin.len_,run_underlying hu,goInt,iL]⟩
theorem q_len {t e:TypeId} {x:Operand} (ho:o.op= .call {callee:=.builtin .len,args:=#[x],argTypes:=#[t]}) (hu:P.underlying t=some (.slice e))
  (hS:Sat G τ w) (hE:∀j,Rep τ w (env.get j) (a.tmps.getD j undef)) (h:lenX ((SOpd.of x).eval G env) K):QOk P τ w o a K:=by
 have hx:=ao (G:=G) hS hE x
 have runs:∀ad n c,a.eval x= .slice ad n c->∀w',(execOp a.eval o).run P w'= .ok (.value (.int .i64 n)) w':=by
  intro ad n c hv w'
  simp[execOp,ho,resolve,invoke,builtin,hv,Builtin.len_,run_underlying hu,goInt]
 unfold lenX at h
 split at h
 ·rename_i sz rows he
  rw[he]at hx
  simp only[Rep]at hx
  rcases hx with⟨hx,hr⟩|⟨ad,cap,hx,_⟩
  ·exact⟨_,.int .i64 rows.length,h,by simp only[Rep],λw' _=>by rw[runs _ _ _ hx,hr];rfl⟩
  ·exact⟨_,.int .i64 rows.length,h,by simp only[Rep],λw' _=>runs _ _ _ hx w'⟩
 ·rename_i g e sz rows he
  rw[he]at hx
  cases g with
  |none=>
   simp only[Rep]at hx
   exact⟨_,.int .i64 rows.length,h,by simp only[Rep],λw' _=>by rw[runs _ _ _ hx.1,hx.2];rfl⟩
  |some b=>
   simp only[Rep]at hx
   obtain⟨cap,hx,_⟩:=hx
   exact⟨_,.int .i64 rows.length,h,by simp only[Rep],λw' _=>runs _ _ _ hx w'⟩
 ·rename_i he
  rw[he]at hx
  simp only[Rep]at hx
  exact⟨_,.int .i64 0,h,by simp only[Rep],λw' _=>runs _ _ _ hx w'⟩
 ·rename_i r n c he
  rw[he]at hx
  simp only[Rep]at hx
  exact⟨_,.int .i64 n,h,by simp only[Rep],λw' _=>runs _ _ _ hx w'⟩
 ·exact h.elim
theorem q_mkI {t:TypeId} {x:Operand} {d:TypeDesc} (ho:o.op= .makeInterface t x) (hu:P.underlying t=some d) (hd:∀m,d≠ .interface m) (hS:Sat G τ w) (hE:∀j,Rep τ w (env.get j) (a.tmps.getD j undef))
  (h:scX ((SOpd.of x).eval G env) λv=>K (.sc (.iface t v))):QOk P τ w o a K:=by
 have hx:=ao (G:=G) hS hE x
 unfold scX at h
 split at h
 ·rename_i v he
  rw[he]at hx
  simp only[Rep]at hx
  refine⟨_,.iface t v,h,by simp only[Rep],λw' _=>?_⟩
  cases d<;>first
   |exact absurd rfl (hd _)
   |simp[execOp,ho,hx,Instr.makeInterface,run_underlying hu]
 ·exact h.elim
end
end Go.Av
