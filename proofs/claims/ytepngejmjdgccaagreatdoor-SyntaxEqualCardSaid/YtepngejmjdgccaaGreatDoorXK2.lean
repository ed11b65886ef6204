/-
  CONCRETE RUNS, 2: operations that leave memory as it is, by reckoning.
-/
import Derived.Test.YtepngejmjdgccaaGreatDoorXK1
namespace Go.Av
open Go Go.RowKit
set_option linter.unusedSimpArgs false
set_option linter.unusedVariables false
section
variable (G:Glob)
def cheap:AV->Bool
 | .bool _=>true
 | .int _ _=>true
 | .str _=>true
 | .nil=>true
 |v=>v.lo 0
theorem cheap_ok:∀{v:AV},cheap v=true->v.lo 0=true
 | .bool _,_=>by rw[AV.lo]
 | .int _ _,_=>by rw[AV.lo]
 | .str _,_=>by rw[AV.lo]
 | .nil,_=>by rw[AV.lo]
 | .any,h=>h
 | .sc _,h=>h
 | .lst _ _,h=>h
 | .own _ _ _ _,h=>h
 | .ref _,h=>h
 | .agg _,h=>h
 | .tup _,h=>h
def cheapL:List AV->Bool
 |[]=>true
 |x::xs=>match cheap x with
  |true=>cheapL xs
  |false=>false
theorem cheapL_ok:∀{xs:List AV},cheapL xs=true->loL 0 xs=true
 |[],_=>by rw[loL]
 |x::xs,h=>by
  simp only[cheapL]at h
  split at h
  ·rename_i hx
   rw[loL,cheap_ok hx,cheapL_ok h];rfl
  ·cases h
def opdE (env:Env):SOpd->Option AV
 | .t i=>some (env.get i)
 | .c v=>if cheap v then some v else none
 | .f i=>some (.sc (.func (.func i) #[] #[]))
 | .g i=>match G.tab i with
  |some cs=>if cheapL cs then some (.ref cs)else none
  |none=>none
def opdsE (env:Env):List SOpd->Option (List AV)
 |[]=>some []
 |x::xs=>match opdE G env x,opdsE env xs with
  |some v,some vs=>some (v::vs)
  |_,_=>none
def fillE (env:Env):List AV->List (Nat×Nat×SOpd)->Option (List AV)
 |cells,[]=>some cells
 |cells,(off,n,x)::rest=>match (opdE G env x).bind AV.cells? with
  |some c=>if c.length=n/\off+n<=cells.length then fillE env (splice cells off c) rest else none
  |none=>none
def binE (op:BinOp) (x y:AV):Option AV:=
 match x,y with
 | .int k a,.int k' b=>if k=k' then
   match op with
   | .add=>some (.int k (k.wrap (a+b)))
   | .sub=>some (.int k (k.wrap (a-b)))
   | .mul=>some (.int k (k.wrap (a*b)))
   | .quo=>if b≠0 then some (.int k (k.wrap (a.tdiv b)))else none
   | .rem=>if b≠0 then some (.int k (a.tmod b))else none
   | .eql=>some (.bool (decide (a=b)))
   | .neq=>some (.bool (decide (a≠b)))
   | .lss=>some (.bool (decide (a<b)))
   | .leq=>some (.bool (decide (a<=b)))
   | .gtr=>some (.bool (decide (b<a)))
   | .geq=>some (.bool (decide (b<=a)))
   |_=>none
  else none
 | .str a,.str b=>
  match op with
  | .add=>if a.length+b.length<9223372036854775808 then some (.str (a++b))else none
  | .eql=>some (.bool (decide (a=b)))
  | .neq=>some (.bool (decide (a≠b)))
  | .lss=>some (.bool (Op.bytesLess a b))
  | .leq=>some (.bool (Op.bytesLess a b||decide (a=b)))
  | .gtr=>some (.bool (!(Op.bytesLess a b||decide (a=b))))
  | .geq=>some (.bool (!Op.bytesLess a b))
  |_=>none
 |_,_=>none
def intE:AV->Option Int
 | .int _ n=>some n
 |_=>none
def strE:AV->Option (List UInt8)
 | .str s=>some s
 |_=>none
def boundE (env:Env) (d:Int):Option SOpd->Option Int
 |none=>some d
 |some x=>(opdE G env x).bind intE
def rowsE:AV->Option (Nat×List (List AV))
 | .lst sz rows=>some (sz,rows)
 | .own _ _ sz rows=>some (sz,rows)
 |_=>none
def sliceE (env:Env) (sz:Nat) (x:AV) (lo hi:Option SOpd):Option AV:=
 match x with
 | .nil=>match boundE G env 0 lo,boundE G env 0 hi with
  |some l,some h=>if l=0/\h=0 then some .nil else none
  |_,_=>none
 |x=>match rowsE x with
  |some (sz',rows)=>match boundE G env 0 lo,boundE G env rows.length hi with
   |some l,some h=>if sz=sz'/\0<=l/\l<=h/\h<=rows.length then some (.lst sz ((rows.take h.toNat).drop l.toNat))else none
   |_,_=>none
  |none=>none
def loadE (agg:Bool) (n:Nat) (cs:List AV):Option AV:=if n<=cs.length then some (if agg then .agg (cs.take n)else cs.headD .any)else none
def loadXE (σ:Store) (agg:Bool) (n:Nat) (x:AV):Option AV:=
 match x with
 | .ref cs=>loadE agg n cs
 | .sc (.pointer (some ⟨b,o,none⟩))=>match σ.get b with
  |some (.cells _ cs)=>loadE agg n (cs.drop o)
  |_=>none
 |_=>none
def fieldE (off:Nat) (x:AV):Option AV:=
 match x with
 | .ref cs=>some (.ref (cs.drop off))
 | .sc (.pointer (some ⟨b,o,none⟩))=>some (.sc (.pointer (some ⟨b,o+off,none⟩)))
 |_=>none
def nilE (x:AV):Option AV:=
 match x with
 | .ref cs=>some (.ref cs)
 | .sc (.pointer (some ⟨b,o,none⟩))=>some (.sc (.pointer (some ⟨b,o,none⟩)))
 | .sc (.func (.func k) fs cs)=>some (.sc (.func (.func k) fs cs))
 |_=>none
def indexE (sz:Nat) (x i:AV):Option AV:=
 match rowsE x,intE i with
 |some (sz',rows),some n=>if sz=sz'/\0<=n/\n<rows.length then some (.ref (rows.getD n.toNat []))else none
 |_,_=>none
def indexPE (len sz:Nat) (x i:AV):Option AV:=
 match intE i with
 |some n=>if 0<=n/\n<len then fieldE (n.toNat*sz) x else none
 |none=>none
def charE (x i:AV):Option AV:=
 match strE x,intE i with
 |some s,some n=>if 0<=n/\n<s.length then some (.int .u8 (s.getD n.toNat 0).toNat)else none
 |_,_=>none
def aggE:AV->Option (List AV)
 | .agg cs=>some cs
 |_=>none
def tupE (i:Nat):AV->Option AV
 | .tup cs=>if i<cs.length then some (cs.getD i .any)else none
 |_=>none
def boolE:AV->Option Bool
 | .bool b=>some b
 |_=>none
def eqnilE (kind:Nat) (neg:Bool) (x:AV):Option AV:=
 match kind,x with
 |0,.nil=>some (.bool (!neg))
 |0,.lst _ (_::_)=>some (.bool neg)
 |1,.sc (.map r)=>some (.bool (if neg then r.isSome else r.isNone))
 |2,.sc .nilFunc=>some (.bool (!neg))
 |2,.sc (.func _ _ _)=>some (.bool neg)
 |3,.sc (.pointer r)=>some (.bool (if neg then r.isSome else r.isNone))
 |3,.ref _=>some (.bool neg)
 |_,_=>none
def lenE:AV->Option AV
 | .lst _ rows=>some (.int .i64 rows.length)
 | .own _ _ _ rows=>some (.int .i64 rows.length)
 | .nil=>some (.int .i64 0)
 |_=>none
def ptrE:AV->Option Value
 | .sc (.pointer (some ⟨b,o,none⟩))=>some (.pointer (some ⟨b,o,none⟩))
 |_=>none
def ptrsE (env:Env):List SOpd->Option (List Value)
 |[]=>some []
 |x::xs=>match (opdE G env x).bind ptrE,ptrsE env xs with
  |some v,some vs=>some (v::vs)
  |_,_=>none
def aqE (so:SOp) (env:Env) (σ:Store):Option AV:=
 match so with
 | .mov x=>opdE G env x
 | .pick c a b=>match opdE G env c,opdE G env a,opdE G env b with
  |some (.bool t),some x,some y=>some (if t then x else y)
  |_,_,_=>none
 | .nilCheck x=>(opdE G env x).bind nilE
 | .load agg n x=>(opdE G env x).bind (loadXE σ agg n)
 | .loadF agg n x=>match opdE G env x with
  |some (.ref cs)=>loadE agg n cs
  |_=>none
 | .build zero parts=>if cheapL zero then (fillE G env zero parts).map .agg else none
 | .fieldA off x=>(opdE G env x).bind (fieldE off)
 | .indexA sz x i=>match opdE G env x,opdE G env i with
  |some x,some i=>indexE sz x i
  |_,_=>none
 | .indexP len sz x i=>match opdE G env x,opdE G env i with
  |some x,some i=>indexPE len sz x i
  |_,_=>none
 | .index x i=>match opdE G env x,opdE G env i with
  |some x,some i=>charE x i
  |_,_=>none
 | .slice sz x lo hi=>match opdE G env x with
  |some x=>sliceE G env sz x lo hi
  |none=>none
 | .sliceS x lo hi=>match (opdE G env x).bind strE with
  |some s=>match boundE G env 0 lo,boundE G env s.length hi with
   |some l,some h=>if 0<=l/\l<=h/\h<=s.length then some (.str ((s.take h.toNat).drop l.toNat))else none
   |_,_=>none
  |none=>none
 | .field agg off n x=>match (opdE G env x).bind aggE with
  |some cs=>loadE agg n (cs.drop off)
  |none=>none
 | .extract i x=>(opdE G env x).bind (tupE i)
 | .bin op x y=>match opdE G env x,opdE G env y with
  |some x,some y=>binE op x y
  |_,_=>none
 | .eqb neg x y=>match (opdE G env x).bind boolE,(opdE G env y).bind boolE with
  |some a,some b=>some (.bool (if neg then a != b else a==b))
  |_,_=>none
 | .eqs neg ks x y=>match (opdE G env x).bind aggE,(opdE G env y).bind aggE with
  |some xs,some ys=>(eqAV ks xs ys).map λr=>.bool (if neg then !r else r)
  |_,_=>none
 | .eqnil kind neg x=>(opdE G env x).bind (eqnilE kind neg)
 | .not x=>match (opdE G env x).bind boolE with
  |some b=>some (.bool (!b))
  |none=>none
 | .conv k x=>match (opdE G env x).bind intE with
  |some n=>some (.int k (k.wrap n))
  |none=>none
 | .str x=>((opdE G env x).bind strE).map .str
 | .len x=>(opdE G env x).bind lenE
 | .lenS x=>((opdE G env x).bind strE).map λs=>.int .i64 s.length
 | .mkfun fn first cap=>match ptrsE G env first,ptrsE G env cap with
  |some vs,some us=>some (.sc (.func fn vs.toArray us.toArray))
  |_,_=>none
 |_=>none
end
section
variable {G:Glob} {ρ:Ren} {env:Env} {σ:Store} {K:AV->Prop} {r:AV}
theorem opdE_ok {x:SOpd} (h:opdE G env x=some r):x.eval G (env.ren ρ)=r.ren ρ:=by
 cases x with
 |t i=>cases h;exact Env.ren_get env i
 |c v=>
  simp only[opdE]at h
  split at h
  ·rename_i hl;cases h;exact(AV.ren_lo0 (cheap_ok hl)).symm
  ·cases h
 |f i=>cases h;simp[SOpd.eval,AV.ren,renV]
 |g i=>
  simp only[opdE]at h
  split at h
  ·rename_i cs hc
   split at h
   ·rename_i hl;cases h;simp only[SOpd.eval,hc,AV.ren,renL_lo0 (cheapL_ok hl)]
   ·cases h
  ·cases h
theorem bind_ok {α β:Type} {x:Option α} {f:α->Option β} {b:β} (h:x.bind f=some b):∃a,x=some a/\f a=some b:=Option.bind_eq_some_iff.1 h
theorem fillE_ok {K:List AV->Prop}:∀{parts:List (Nat×Nat×SOpd)} {cells cs:List AV},fillE G env cells parts=some cs->K (renL ρ cs)->fillAV G (env.ren ρ) (renL ρ cells) parts K
 |[],cells,cs,h,hk=>by cases h;exact hk
 |(off,n,x)::rest,cells,cs,h,hk=>by
  simp only[fillE]at h
  split at h
  ·rename_i c hc
   obtain⟨v,hv,hc⟩:=bind_ok hc
   split at h
   ·rename_i hn
    have ih:=fillE_ok h hk
    simp only[fillAV,withCells,opdE_ok (ρ:=ρ) hv,cells_ren hc]
    rw[renL_splice]at ih
    exact⟨by rw[renL_len];exact hn.1,by rw[renL_len];exact hn.2,ih⟩
   ·cases h
  ·cases h
theorem binE_ok {op:BinOp} {x y:AV} (h:binE op x y=some r) (hk:K (r.ren ρ)):binAV op (x.ren ρ) (y.ren ρ) K:=by
 unfold binE at h
 split at h
 ·split at h
  ·rename_i hkk
   split at h<;>first
    |(cases h;simp only[AV.ren,binAV]at hk ⊢;exact⟨hkk,hk⟩)
    |(split at h
      ·rename_i hb;cases h;simp only[AV.ren,binAV]at hk ⊢;exact⟨hkk,hb,hk⟩
      ·cases h)
    |cases h
  ·cases h
 ·split at h<;>first
   |(cases h;simp only[AV.ren,binAV]at hk ⊢;exact hk)
   |(split at h
     ·rename_i hb;cases h;simp only[AV.ren,binAV]at hk ⊢;exact⟨hb,hk⟩
     ·cases h)
   |cases h
 ·cases h
theorem intE_ok {x:AV} {n:Int} (h:intE x=some n):∃k,x= .int k n:=by
 cases x<;>cases h
 exact⟨_,rfl⟩
theorem strE_ok {x:AV} {s:List UInt8} (h:strE x=some s):x= .str s:=by
 cases x<;>cases h
 rfl
theorem boolE_ok {x:AV} {b:Bool} (h:boolE x=some b):x= .bool b:=by
 cases x<;>cases h
 rfl
theorem aggE_ok {x:AV} {cs:List AV} (h:aggE x=some cs):x= .agg cs:=by
 cases x<;>cases h
 rfl
theorem boundE_ok {d:Int} {x:Option SOpd} {n:Int} {K:Int->Prop} (h:boundE G env d x=some n) (hk:K n):bound G (env.ren ρ) d x K:=by
 cases x with
 |none=>cases h;exact hk
 |some x=>
  obtain⟨v,hv,hn⟩:=bind_ok h
  obtain⟨k,rfl⟩:=intE_ok hn
  simp only[bound,opdE_ok (ρ:=ρ) hv,AV.ren]
  exact hk
theorem rowsE_ok {x:AV} {sz:Nat} {rows:List (List AV)} {K:Nat->List (List AV)->Prop} (h:rowsE x=some (sz,rows)) (hk:K sz (renR ρ rows)):rowsOf (x.ren ρ) K:=by
 unfold rowsE at h
 split at h<;>cases h<;>(simp only[AV.ren,rowsOf];exact hk)
theorem sliceE_ok {sz:Nat} {x:AV} {lo hi:Option SOpd} (h:sliceE G env sz x lo hi=some r) (hk:K (r.ren ρ)):sliceAV G (env.ren ρ) sz (x.ren ρ) lo hi K:=by
 unfold sliceE at h
 split at h
 ·split at h
  ·rename_i l u hl hu
   split at h
   ·rename_i hc
    cases h
    simp only[AV.ren]at hk ⊢
    show bound G (env.ren ρ) 0 lo λl=>bound G (env.ren ρ) 0 hi λh=>l=0/\h=0/\K .nil
    refine boundE_ok hl ?_
    refine boundE_ok hu ?_
    exact⟨hc.1,hc.2,hk⟩
   ·cases h
  ·cases h
 ·rename_i x hx
  split at h
  ·rename_i sz' rows hr
   split at h
   ·rename_i l u hl hu
    split at h
    ·rename_i hc
     cases h
     simp only[AV.ren,renR_drop,renR_take]at hk
     have key:∀y:AV,rowsOf y (λsz' rows=>bound G (env.ren ρ) 0 lo λl=>bound G (env.ren ρ) rows.length hi λh=>sz=sz'/\0<=l/\l<=h/\h<=rows.length/\K (.lst sz ((rows.take h.toNat).drop l.toNat)))->(∀b o n c,y≠ .sc (.slice (some ⟨b,o,none⟩) n c))->y≠ .nil->sliceAV G (env.ren ρ) sz y lo hi K:=by
      intro y hy h1 h2
      cases y with
      |lst _ _=>exact hy
      |own _ _ _ _=>exact hy
      |_=>exact hy.elim
     refine key _ (rowsE_ok hr (boundE_ok hl ?_)) ?_ ?_
     ·rw[renR_len]
      exact boundE_ok hu ⟨hc.1,hc.2.1,hc.2.2.1,hc.2.2.2,hk⟩
     ·intro b o n c e
      unfold rowsE at hr
      split at hr<;>first|cases hr;done|(rw[AV.ren]at e;cases e)
     ·intro e
      unfold rowsE at hr
      split at hr<;>first|cases hr;done|(rw[AV.ren]at e;cases e)
    ·cases h
   ·cases h
  ·cases h
theorem loadE_ok {agg:Bool} {n:Nat} {cs:List AV} (h:loadE agg n cs=some r) (hk:K (r.ren ρ)):loadAV agg n (renL ρ cs) K:=by
 unfold loadE at h
 split at h
 ·rename_i hn
  cases h
  refine⟨by rw[renL_len];exact hn,?_⟩
  cases agg with
  |true=>simp only[if_true,AV.ren,renL_take]at hk ⊢;exact hk
  |false=>simp only[Bool.false_eq_true,if_false,renL_headD]at hk ⊢;exact hk
 ·cases h
theorem loadXE_ok (hs:SOk ρ σ) {agg:Bool} {n:Nat} {x:AV} (h:loadXE σ agg n x=some r) (hk:K (r.ren ρ)):loadX (σ.ren ρ) agg n (x.ren ρ) K:=by
 unfold loadXE at h
 split at h
 ·simp only[AV.ren,loadX];exact loadE_ok h hk
 ·split at h
  ·rename_i hg
   obtain⟨b',hb,hg⟩:=hs.cells hg
   simp only[AV.ren,renV,hb,Option.getD_some,loadX,hg,withRow]
   rw[←renL_drop]
   exact loadE_ok h hk
  ·cases h
 ·cases h
theorem fieldE_ok {off:Nat} {x:AV} (h:fieldE off x=some r) (hk:K (r.ren ρ)):fieldX off (x.ren ρ) K:=by
 unfold fieldE at h
 split at h
 ·cases h;simp only[AV.ren,fieldX,renL_drop]at hk ⊢;exact hk
 ·cases h;simp only[AV.ren,renV,fieldX]at hk ⊢;exact hk
 ·cases h
theorem nilE_ok {x:AV} (h:nilE x=some r) (hk:K (r.ren ρ)):nilAV (x.ren ρ) K:=by
 unfold nilE at h
 split at h
 ·cases h;simp only[AV.ren,nilAV]at hk ⊢;exact hk
 ·cases h;simp only[AV.ren,renV,nilAV]at hk ⊢;exact hk
 ·cases h;simp only[AV.ren,renV,nilAV]at hk ⊢;exact hk
 ·cases h
theorem indexE_ok {sz:Nat} {x i:AV} (h:indexE sz x i=some r) (hk:K (r.ren ρ)):indexX sz (x.ren ρ) (i.ren ρ) K:=by
 unfold indexE at h
 split at h
 ·rename_i sz' rows n hr hn
  split at h
  ·rename_i hc
   cases h
   obtain⟨k,rfl⟩:=intE_ok hn
   have key:rowsOf (x.ren ρ) λsz' rows=>sz=sz'/\intX (AV.ren ρ (.int k n)) λn=>0<=n/\n<rows.length/\K (.ref (rows.getD n.toNat [])):=by
    refine rowsE_ok hr ⟨hc.1,?_⟩
    simp only[AV.ren,intX]at hk ⊢
    exact⟨hc.2.1,by rw[renR_len];exact hc.2.2,by rw[renR_getD];exact hk⟩
   unfold rowsE at hr
   split at hr<;>first|cases hr;done|(simp only[AV.ren]at key ⊢;exact key)
  ·cases h
 ·cases h
theorem indexPE_ok {len sz:Nat} {x i:AV} (h:indexPE len sz x i=some r) (hk:K (r.ren ρ)):indexPX len sz (x.ren ρ) (i.ren ρ) K:=by
 unfold indexPE at h
 split at h
 ·rename_i n hn
  split at h
  ·rename_i hc
   obtain⟨k,rfl⟩:=intE_ok hn
   simp only[indexPX,AV.ren,intX]
   exact⟨hc.1,hc.2,fieldE_ok h hk⟩
  ·cases h
 ·cases h
theorem charE_ok {x i:AV} (h:charE x i=some r) (hk:K (r.ren ρ)):charX (x.ren ρ) (i.ren ρ) K:=by
 unfold charE at h
 split at h
 ·rename_i s n hs hn
  split at h
  ·rename_i hc
   cases h
   obtain⟨k,rfl⟩:=intE_ok hn
   obtain rfl:=strE_ok hs
   simp only[AV.ren,charX,strX,intX]at hk ⊢
   exact⟨hc.1,hc.2,hk⟩
  ·cases h
 ·cases h
theorem tupE_ok {i:Nat} {x:AV} (h:tupE i x=some r) (hk:K (r.ren ρ)):tupX i (x.ren ρ) K:=by
 unfold tupE at h
 split at h
 ·split at h
  ·rename_i hi
   cases h
   simp only[AV.ren,tupX,renL_getD]
   exact⟨by rw[renL_len];exact hi,hk⟩
  ·cases h
 ·cases h
theorem eqAV_ren:∀(ks:List Nat) (xs ys:List AV) {b:Bool},eqAV ks xs ys=some b->eqAV ks (renL ρ xs) (renL ρ ys)=some b:=by
 intro ks xs ys
 fun_induction eqAV ks xs ys with
 |case1=>intro b h;simpa[renL,eqAV]using h
 |case2 ks a xs c ys ih=>
  intro b h
  obtain⟨d,hd,rfl⟩:=Option.map_eq_some_iff.1 h
  simp[renL,AV.ren,eqAV,ih hd]
 |case3 ks k a xs c ys ih=>
  intro b h
  obtain⟨d,hd,rfl⟩:=Option.map_eq_some_iff.1 h
  simp[renL,AV.ren,eqAV,ih hd]
 |case4=>intro b h;cases h
 |case5 ks a xs c ys ih=>
  intro b h
  obtain⟨d,hd,rfl⟩:=Option.map_eq_some_iff.1 h
  simp[renL,AV.ren,eqAV,ih hd]
 |case6=>intro b h;cases h
theorem eqnilE_ok {kind:Nat} {neg:Bool} {x:AV} (h:eqnilE kind neg x=some r) (hk:K (r.ren ρ)):eqnilX kind neg (x.ren ρ) K:=by
 unfold eqnilE at h
 split at h
 ·cases h;simpa only[AV.ren,eqnilX]using hk
 ·cases h
  simp only[AV.ren,eqnilX,renR]at hk ⊢
  intro b hb
  rw[hb (by simp)];exact hk
 ·cases h
  rename_i m
  simp only[AV.ren]at hk ⊢
  cases m<;>simpa[renV,eqnilX]using hk
 ·cases h;simpa only[AV.ren,renV,eqnilX]using hk
 ·cases h;simpa only[AV.ren,renV,eqnilX]using hk
 ·cases h
  rename_i m
  simp only[AV.ren]at hk ⊢
  cases m with
  |none=>simpa[renV,eqnilX]using hk
  |some a=>
   obtain⟨b,o,s⟩:=a
   cases s<;>simpa[renV,eqnilX]using hk
 ·cases h;simpa only[AV.ren,eqnilX]using hk
 ·cases h
theorem lenE_ok {x:AV} (h:lenE x=some r) (hk:K (r.ren ρ)):lenX (x.ren ρ) K:=by
 unfold lenE at h
 split at h
 ·cases h;simp only[AV.ren,lenX,renR_len]at hk ⊢;exact hk
 ·cases h;simp only[AV.ren,lenX,renR_len]at hk ⊢;exact hk
 ·cases h;simp only[AV.ren,lenX]at hk ⊢;exact hk
 ·cases h
theorem ptrE_ok {x:AV} {v:Value} (h:ptrE x=some v):x.ren ρ= .sc (renP ρ v):=by
 unfold ptrE at h
 split at h
 ·cases h;simp only[AV.ren,renV,renP]
 ·cases h
theorem ptrsE_ok {K:List Value->Prop}:∀{xs:List SOpd} {vs:List Value},ptrsE G env xs=some vs->K (vs.map (renP ρ))->scsX G (env.ren ρ) xs K
 |[],vs,h,hk=>by cases h;exact hk
 |x::xs,vs,h,hk=>by
  simp only[ptrsE]at h
  split at h
  ·rename_i v us hv hu
   cases h
   obtain⟨y,hy,hp⟩:=bind_ok hv
   simp only[scsX,opdE_ok (ρ:=ρ) hy,ptrE_ok (ρ:=ρ) hp,scX]
   exact ptrsE_ok hu hk
  ·cases h
theorem aqE_ok (hs:SOk ρ σ) {so:SOp} (h:aqE G so env σ=some r) (hk:K (r.ren ρ)):aq G so (env.ren ρ) (σ.ren ρ) K:=by
 cases so with
 |mov x=>simp only[aq,opdE_ok (ρ:=ρ) h];exact hk
 |pick c a b=>
  simp only[aqE]at h
  split at h
  ·rename_i t x y h1 h2 h3
   cases h
   simp only[aq,opdE_ok (ρ:=ρ) h1,opdE_ok (ρ:=ρ) h2,opdE_ok (ρ:=ρ) h3,AV.ren,pickAV]
   cases t<;>simpa using hk
  ·cases h
 |nilCheck x=>
  obtain⟨v,hv,h⟩:=bind_ok h
  simp only[aq,opdE_ok (ρ:=ρ) hv];exact nilE_ok h hk
 |load agg n x=>
  obtain⟨v,hv,h⟩:=bind_ok h
  simp only[aq,opdE_ok (ρ:=ρ) hv];exact loadXE_ok hs h hk
 |loadF agg n x=>
  simp only[aqE]at h
  split at h
  ·rename_i cs hv
   simp only[aq,opdE_ok (ρ:=ρ) hv,AV.ren,refX];exact loadE_ok h hk
  ·cases h
 |build zero parts=>
  simp only[aqE]at h
  split at h
  ·rename_i hz
   obtain⟨cs,hc,rfl⟩:=Option.map_eq_some_iff.1 h
   have:=fillE_ok (ρ:=ρ) (K:=λcs=>K (.agg cs)) hc (by rw[AV.ren]at hk;exact hk)
   rw[renL_lo0 (cheapL_ok hz)]at this
   exact this
  ·cases h
 |fieldA off x=>
  obtain⟨v,hv,h⟩:=bind_ok h
  simp only[aq,opdE_ok (ρ:=ρ) hv];exact fieldE_ok h hk
 |indexA sz x i=>
  simp only[aqE]at h
  split at h
  ·rename_i h1 h2
   simp only[aq,opdE_ok (ρ:=ρ) h1,opdE_ok (ρ:=ρ) h2];exact indexE_ok h hk
  ·cases h
 |indexP len sz x i=>
  simp only[aqE]at h
  split at h
  ·rename_i h1 h2
   simp only[aq,opdE_ok (ρ:=ρ) h1,opdE_ok (ρ:=ρ) h2];exact indexPE_ok h hk
  ·cases h
 |index x i=>
  simp only[aqE]at h
  split at h
  ·rename_i h1 h2
   simp only[aq,opdE_ok (ρ:=ρ) h1,opdE_ok (ρ:=ρ) h2];exact charE_ok h hk
  ·cases h
 |slice sz x lo hi=>
  simp only[aqE]at h
  split at h
  ·rename_i h1
   simp only[aq,opdE_ok (ρ:=ρ) h1];exact sliceE_ok h hk
  ·cases h
 |sliceS x lo hi=>
  simp only[aqE]at h
  split at h
  ·rename_i s h1
   obtain⟨v,hv,h1⟩:=bind_ok h1
   obtain rfl:=strE_ok h1
   split at h
   ·rename_i l u hl hu
    split at h
    ·rename_i hc
     cases h
     simp only[aq,opdE_ok (ρ:=ρ) hv,AV.ren,strX]at hk ⊢
     exact boundE_ok hl (boundE_ok hu ⟨hc.1,hc.2.1,hc.2.2,hk⟩)
    ·cases h
   ·cases h
  ·cases h
 |field agg off n x=>
  simp only[aqE]at h
  split at h
  ·rename_i cs h1
   obtain⟨v,hv,h1⟩:=bind_ok h1
   obtain rfl:=aggE_ok h1
   simp only[aq,opdE_ok (ρ:=ρ) hv,AV.ren,aggX]
   rw[←renL_drop]
   exact loadE_ok h hk
  ·cases h
 |extract i x=>
  obtain⟨v,hv,h⟩:=bind_ok h
  simp only[aq,opdE_ok (ρ:=ρ) hv];exact tupE_ok h hk
 |bin op x y=>
  simp only[aqE]at h
  split at h
  ·rename_i h1 h2
   simp only[aq,opdE_ok (ρ:=ρ) h1,opdE_ok (ρ:=ρ) h2];exact binE_ok h hk
  ·cases h
 |eqb neg x y=>
  simp only[aqE]at h
  split at h
  ·rename_i a b h1 h2
   cases h
   obtain⟨v,hv,h1⟩:=bind_ok h1
   obtain⟨u,hu,h2⟩:=bind_ok h2
   obtain rfl:=boolE_ok h1
   obtain rfl:=boolE_ok h2
   simp only[aq,opdE_ok (ρ:=ρ) hv,opdE_ok (ρ:=ρ) hu,AV.ren,boolX]at hk ⊢
   exact hk
  ·cases h
 |eqs neg ks x y=>
  simp only[aqE]at h
  split at h
  ·rename_i xs ys h1 h2
   obtain⟨b,hb,rfl⟩:=Option.map_eq_some_iff.1 h
   obtain⟨v,hv,h1⟩:=bind_ok h1
   obtain⟨u,hu,h2⟩:=bind_ok h2
   obtain rfl:=aggE_ok h1
   obtain rfl:=aggE_ok h2
   simp only[aq,opdE_ok (ρ:=ρ) hv,opdE_ok (ρ:=ρ) hu,AV.ren,aggX,eqsX,eqAV_ren ks xs ys hb]at hk ⊢
   exact hk
  ·cases h
 |eqnil kind neg x=>
  obtain⟨v,hv,h⟩:=bind_ok h
  simp only[aq,opdE_ok (ρ:=ρ) hv];exact eqnilE_ok h hk
 |not x=>
  simp only[aqE]at h
  split at h
  ·rename_i b h1
   cases h
   obtain⟨v,hv,h1⟩:=bind_ok h1
   obtain rfl:=boolE_ok h1
   simp only[aq,opdE_ok (ρ:=ρ) hv,AV.ren,boolX]at hk ⊢
   exact hk
  ·cases h
 |conv k x=>
  simp only[aqE]at h
  split at h
  ·rename_i n h1
   cases h
   obtain⟨v,hv,h1⟩:=bind_ok h1
   obtain⟨k',rfl⟩:=intE_ok h1
   simp only[aq,opdE_ok (ρ:=ρ) hv,AV.ren,convX]at hk ⊢
   exact hk
  ·cases h
 |str x=>
  obtain⟨s,h1,rfl⟩:=Option.map_eq_some_iff.1 h
  obtain⟨v,hv,h1⟩:=bind_ok h1
  obtain rfl:=strE_ok h1
  simp only[aq,opdE_ok (ρ:=ρ) hv,AV.ren,strX]at hk ⊢
  exact hk
 |len x=>
  obtain⟨v,hv,h⟩:=bind_ok h
  simp only[aq,opdE_ok (ρ:=ρ) hv];exact lenE_ok h hk
 |lenS x=>
  obtain⟨s,h1,rfl⟩:=Option.map_eq_some_iff.1 h
  obtain⟨v,hv,h1⟩:=bind_ok h1
  obtain rfl:=strE_ok h1
  simp only[aq,opdE_ok (ρ:=ρ) hv,AV.ren,strX]at hk ⊢
  exact hk
 |mkfun fn first cap=>
  simp only[aqE]at h
  split at h
  ·rename_i vs us h1 h2
   cases h
   simp only[aq]
   refine ptrsE_ok h1 (ptrsE_ok h2 ?_)
   simp only[AV.ren,renV]at hk
   simpa using hk
  ·cases h
 |_=>cases h
/-! ### numbers stay below -/
theorem loP_mono {n m:Nat} (h:n<=m) {v:Value} (hv:loP n v=true):loP m v=true:=by
 unfold loP at*
 split
 ·simp only[decide_eq_true_eq]at hv ⊢;omega
 ·rfl
theorem loPs_mono {n m:Nat} (h:n<=m) {l:List Value} (hv:l.all (loP n)=true):l.all (loP m)=true:=List.all_eq_true.2 λv hm=>loP_mono h (List.all_eq_true.1 hv v hm)
theorem loV_mono {n m:Nat} (h:n<=m) {v:Value} (hv:loV n v=true):loV m v=true:=by
 unfold loV at*
 split
 ·simp only[decide_eq_true_eq]at hv ⊢;omega
 ·simp only[decide_eq_true_eq]at hv ⊢;omega
 ·simp only[Bool.and_eq_true]at hv ⊢;exact⟨loPs_mono h hv.1,loPs_mono h hv.2⟩
 ·rfl
mutual
theorem AV.lo_mono {n m:Nat} (h:n<=m):∀x:AV,x.lo n=true->x.lo m=true
 | .sc v,hx=>by rw[AV.lo]at*;exact loV_mono h hx
 | .lst sz rows,hx=>by rw[AV.lo]at*;exact loR_mono h rows hx
 | .own none e sz rows,hx=>by rw[AV.lo]at*;simp only[Bool.true_and]at*;exact loR_mono h rows hx
 | .own (some b) e sz rows,hx=>by rw[AV.lo]at*;simp only[Bool.and_eq_true,decide_eq_true_eq]at*;exact⟨by omega,loR_mono h rows hx.2⟩
 | .ref cs,hx=>by rw[AV.lo]at*;exact loL_mono h cs hx
 | .agg cs,hx=>by rw[AV.lo]at*;exact loL_mono h cs hx
 | .tup cs,hx=>by rw[AV.lo]at*;exact loL_mono h cs hx
 | .any,_=>by rw[AV.lo]
 | .bool _,_=>by rw[AV.lo]
 | .int _ _,_=>by rw[AV.lo]
 | .str _,_=>by rw[AV.lo]
 | .nil,_=>by rw[AV.lo]
theorem loL_mono {n m:Nat} (h:n<=m):∀xs:List AV,loL n xs=true->loL m xs=true
 |[],_=>by rw[loL]
 |x::xs,hx=>by
  rw[loL,Bool.and_eq_true]at*
  exact⟨AV.lo_mono h x hx.1,loL_mono h xs hx.2⟩
theorem loR_mono {n m:Nat} (h:n<=m):∀rs:List (List AV),loR n rs=true->loR m rs=true
 |[],_=>by rw[loR]
 |x::xs,hx=>by
  rw[loR,Bool.and_eq_true]at*
  exact⟨loL_mono h x hx.1,loR_mono h xs hx.2⟩
end
section
variable {n m:Nat}
theorem loL_iff:∀{xs:List AV},loL n xs=true↔∀x∈xs,x.lo n=true
 |[]=>by simp[loL]
 |x::xs=>by simp[loL,loL_iff (xs:=xs)]
theorem loR_iff:∀{rs:List (List AV)},loR n rs=true↔∀r∈rs,loL n r=true
 |[]=>by simp[loR]
 |x::xs=>by simp[loR,loR_iff (rs:=xs)]
theorem loL_take {k:Nat} {xs:List AV} (h:loL n xs=true):loL n (xs.take k)=true:=loL_iff.2 λx hx=>loL_iff.1 h x (List.mem_of_mem_take hx)
theorem loL_drop {k:Nat} {xs:List AV} (h:loL n xs=true):loL n (xs.drop k)=true:=loL_iff.2 λx hx=>loL_iff.1 h x (List.mem_of_mem_drop hx)
theorem loR_take {k:Nat} {xs:List (List AV)} (h:loR n xs=true):loR n (xs.take k)=true:=loR_iff.2 λx hx=>loR_iff.1 h x (List.mem_of_mem_take hx)
theorem loR_drop {k:Nat} {xs:List (List AV)} (h:loR n xs=true):loR n (xs.drop k)=true:=loR_iff.2 λx hx=>loR_iff.1 h x (List.mem_of_mem_drop hx)
theorem loR_app {xs ys:List (List AV)} (h:loR n xs=true) (k:loR n ys=true):loR n (xs++ys)=true:=loR_iff.2 λx hx=>by
 rcases List.mem_append.1 hx with hx|hx
 ·exact loR_iff.1 h x hx
 ·exact loR_iff.1 k x hx
theorem loL_app {xs ys:List AV} (h:loL n xs=true) (k:loL n ys=true):loL n (xs++ys)=true:=loL_iff.2 λx hx=>by
 rcases List.mem_append.1 hx with hx|hx
 ·exact loL_iff.1 h x hx
 ·exact loL_iff.1 k x hx
theorem any_lo:AV.any.lo n=true:=by rw[AV.lo]
theorem loL_getD {k:Nat} {xs:List AV} (h:loL n xs=true):(xs.getD k .any).lo n=true:=by
 rw[List.getD_eq_getElem?_getD]
 cases hx:xs[k]? with
 |none=>exact any_lo
 |some x=>exact loL_iff.1 h x (List.mem_of_getElem? hx)
theorem loR_getD {k:Nat} {xs:List (List AV)} (h:loR n xs=true):loL n (xs.getD k [])=true:=by
 rw[List.getD_eq_getElem?_getD]
 cases hx:xs[k]? with
 |none=>exact loL_iff.2 λx hx=>by cases hx
 |some x=>exact loR_iff.1 h x (List.mem_of_getElem? hx)
theorem loL_headD {xs:List AV} (h:loL n xs=true):(xs.headD .any).lo n=true:=by
 cases xs with
 |nil=>exact any_lo
 |cons a l=>exact loL_iff.1 h a (by simp)
theorem loL_splice:∀{l:List AV} {o:Nat} {c:List AV},loL n l=true->loL n c=true->loL n (splice l o c)=true
 |l,0,c,h,k=>by cases l<;>exact loL_app k (loL_drop h)
 |[],o+1,c,h,k=>by simp only[splice];exact h
 |x::l,o+1,c,h,k=>by
  simp only[splice]
  rw[loL,Bool.and_eq_true]at h ⊢
  exact⟨h.1,loL_splice h.2 k⟩
theorem Env.get_lo:∀{env:Env} {j:Nat},loE n env=true->(env.get j).lo n=true
 |[],j,_=>any_lo
 |(k,x)::e,j,h=>by
  simp only[loE,List.all_cons,Bool.and_eq_true]at h
  simp only[Env.get]
  split
  ·exact h.1
  ·exact Env.get_lo (env:=e) h.2
theorem Env.set_lo:∀{env:Env} {j:Nat} {v:AV},loE n env=true->v.lo n=true->loE n (env.set j v)=true
 |[],j,v,_,hv=>by simp only[Env.set,loE,List.all_cons,hv,List.all_nil,Bool.and_self]
 |(k,x)::e,j,v,h,hv=>by
  simp only[loE,List.all_cons,Bool.and_eq_true]at h
  simp only[Env.set]
  split
  ·simp only[loE,List.all_cons,hv,Bool.true_and];exact h.2
  ·have:=Env.set_lo (env:=e) (j:=j) h.2 hv
   simp only[loE,List.all_cons,h.1,Bool.true_and]at this ⊢
   exact this
theorem Env.put_lo {env:Env} {d:Option Nat} {v:AV} (h:loE n env=true) (hv:v.lo n=true):loE n (env.put d v)=true:=by
 cases d with
 |none=>exact h
 |some d=>exact Env.set_lo h hv
theorem Env.keep_lo {env:Env} {ks:List Nat} (h:loE n env=true):loE n (env.keep ks)=true:=List.all_eq_true.2 λp hp=>List.all_eq_true.1 h p ((List.mem_filter.1 hp).1)
theorem loE_mono (h:n<=m) {env:Env} (he:loE n env=true):loE m env=true:=List.all_eq_true.2 λp hp=>AV.lo_mono h _ (List.all_eq_true.1 he p hp)
theorem AObj.lo_mono (h:n<=m):∀{x:AObj},x.lo n=true->x.lo m=true
 | .cells _ cs,hx=>loL_mono h cs hx
 | .tok _ _,_=>rfl
 | .map es,hx=>List.all_eq_true.2 λp hp=>AV.lo_mono h _ (List.all_eq_true.1 hx p hp)
theorem loS_mono (h:n<=m) {σ:Store} (hs:loS n σ=true):loS m σ=true:=List.all_eq_true.2 λp hp=>by
 have:=List.all_eq_true.1 hs p hp
 simp only[Bool.and_eq_true,decide_eq_true_eq]at this ⊢
 exact⟨by omega,AObj.lo_mono h this.2⟩
theorem loS_get {σ:Store} {b:Nat} {x:AObj} (hs:loS n σ=true) (hg:σ.get b=some x):b<n/\x.lo n=true:=by
 have:=List.all_eq_true.1 hs _ (Store.get_mem hg)
 simpa only[Bool.and_eq_true,decide_eq_true_eq]using this
theorem loS_cons {σ:Store} {x:AObj} (hs:loS n σ=true) (hx:x.lo (n+1)=true):loS (n+1) ((n,x)::σ)=true:=by
 have:=loS_mono (Nat.le_succ n) hs
 simp only[loS,List.all_cons,Bool.and_eq_true,decide_eq_true_eq]at this ⊢
 exact⟨⟨Nat.lt_succ_self n,hx⟩,this⟩
theorem loS_set {σ:Store} {b:Nat} {x:AObj} (hs:loS n σ=true) (hb:b<n) (hx:x.lo n=true):loS n (σ.set b x)=true:=List.all_eq_true.2 λp hp=>by
 rcases mem_set hp with hp|rfl
 ·exact List.all_eq_true.1 hs p hp
 ·simp only[Bool.and_eq_true,decide_eq_true_eq];exact⟨hb,hx⟩
theorem argEnv_lo:∀{i:Nat} {xs:List AV},loL n xs=true->loE n (argEnv i xs)=true
 |_,[],_=>rfl
 |i,x::xs,h=>by
  rw[loL,Bool.and_eq_true]at h
  have:=argEnv_lo (i:=i+1) h.2
  simp only[argEnv,loE,List.all_cons,h.1,Bool.true_and]at this ⊢
  exact this
theorem undef_lo:undefAV.lo n=true:=by simp[undefAV,AV.lo,loL]
theorem cells_lo {x:AV} {c:List AV} (h:AV.cells? x=some c) (hx:x.lo n=true):loL n c=true:=by
 have one:∀y:AV,y.lo n=true->loL n [y]=true:=λy hy=>by rw[loL,hy,loL];rfl
 cases x with
 |sc v=>
  simp only[AV.cells?]at h
  split at h
  ·cases h;exact one _ hx
  ·cases h
 |any=>cases h
 |tup _=>cases h
 |agg cs=>cases h;rwa [AV.lo]at hx
 |_=>cases h;exact one _ hx
end
section
variable {G:Glob} {n:Nat} {env:Env} {σ:Store} {r:AV} (he:loE n env=true)
include he
theorem opdE_lo {x:SOpd} (h:opdE G env x=some r):r.lo n=true:=by
 cases x with
 |t i=>cases h;exact Env.get_lo he
 |c v=>
  simp only[opdE]at h
  split at h
  ·rename_i hl;cases h;exact AV.lo_mono (Nat.zero_le n) _ (cheap_ok hl)
  ·cases h
 |f i=>cases h;simp[AV.lo,loV]
 |g i=>
  simp only[opdE]at h
  split at h
  ·split at h
   ·rename_i hl;cases h;rw[AV.lo];exact loL_mono (Nat.zero_le n) _ (cheapL_ok hl)
   ·cases h
  ·cases h
theorem opdsE_lo:∀{xs:List SOpd} {vs:List AV},opdsE G env xs=some vs->loL n vs=true
 |[],vs,h=>by cases h;rw[loL]
 |x::xs,vs,h=>by
  simp only[opdsE]at h
  split at h
  ·rename_i hv hu
   cases h
   rw[loL,opdE_lo he hv,opdsE_lo hu];rfl
  ·cases h
theorem fillE_lo:∀{parts:List (Nat×Nat×SOpd)} {cells cs:List AV},loL n cells=true->fillE G env cells parts=some cs->loL n cs=true
 |[],cells,cs,hl,h=>by cases h;exact hl
 |(off,k,x)::rest,cells,cs,hl,h=>by
  simp only[fillE]at h
  split at h
  ·rename_i c hc
   obtain⟨v,hv,hc⟩:=bind_ok hc
   split at h
   ·exact fillE_lo (loL_splice hl (cells_lo hc (opdE_lo he hv))) h
   ·cases h
  ·cases h
omit he in
theorem binE_lo {op:BinOp} {x y:AV} (h:binE op x y=some r):r.lo n=true:=by
 unfold binE at h
 split at h
 ·split at h
  ·split at h<;>first
    |(cases h;rw[AV.lo])
    |(split at h
      ·cases h;rw[AV.lo]
      ·cases h)
    |cases h
  ·cases h
 ·split at h<;>first
   |(cases h;rw[AV.lo])
   |(split at h
     ·cases h;rw[AV.lo]
     ·cases h)
   |cases h
 ·cases h
omit he in
theorem rowsE_lo {x:AV} {sz:Nat} {rows:List (List AV)} (h:rowsE x=some (sz,rows)) (hx:x.lo n=true):loR n rows=true:=by
 unfold rowsE at h
 split at h
 ·cases h;rwa [AV.lo]at hx
 ·rename_i b _ _ _
  cases h
  cases b<;>(rw[AV.lo,Bool.and_eq_true]at hx;exact hx.2)
 ·cases h
omit he in
theorem sliceE_lo {sz:Nat} {x:AV} {lo hi:Option SOpd} (h:sliceE G env sz x lo hi=some r) (hx:x.lo n=true):r.lo n=true:=by
 unfold sliceE at h
 split at h
 ·split at h
  ·split at h
   ·cases h;rw[AV.lo]
   ·cases h
  ·cases h
 ·split at h
  ·rename_i hr
   split at h
   ·split at h
    ·cases h;rw[AV.lo];exact loR_drop (loR_take (rowsE_lo hr hx))
    ·cases h
   ·cases h
  ·cases h
omit he in
theorem loadE_lo {agg:Bool} {k:Nat} {cs:List AV} (h:loadE agg k cs=some r) (hc:loL n cs=true):r.lo n=true:=by
 unfold loadE at h
 split at h
 ·cases h
  cases agg with
  |true=>simp only[if_true];rw[AV.lo];exact loL_take hc
  |false=>simp only[Bool.false_eq_true,if_false];exact loL_headD hc
 ·cases h
omit he in
theorem loadXE_lo (hs:loS n σ=true) {agg:Bool} {k:Nat} {x:AV} (h:loadXE σ agg k x=some r) (hx:x.lo n=true):r.lo n=true:=by
 unfold loadXE at h
 split at h
 ·rw[AV.lo]at hx;exact loadE_lo h hx
 ·split at h
  ·rename_i hg;exact loadE_lo h (loL_drop (loS_get hs hg).2)
  ·cases h
 ·cases h
omit he in
theorem fieldE_lo {off:Nat} {x:AV} (h:fieldE off x=some r) (hx:x.lo n=true):r.lo n=true:=by
 unfold fieldE at h
 split at h
 ·cases h;rw[AV.lo]at*;exact loL_drop hx
 ·cases h;rw[AV.lo]at*;exact hx
 ·cases h
omit he in
theorem nilE_lo {x:AV} (h:nilE x=some r) (hx:x.lo n=true):r.lo n=true:=by
 unfold nilE at h
 split at h<;>cases h<;>exact hx
omit he in
theorem indexE_lo {sz:Nat} {x i:AV} (h:indexE sz x i=some r) (hx:x.lo n=true):r.lo n=true:=by
 unfold indexE at h
 split at h
 ·rename_i hr _
  split at h
  ·cases h;rw[AV.lo];exact loR_getD (rowsE_lo hr hx)
  ·cases h
 ·cases h
omit he in
theorem eqnilE_lo {kind:Nat} {neg:Bool} {x:AV} (h:eqnilE kind neg x=some r):r.lo n=true:=by
 unfold eqnilE at h
 split at h<;>cases h<;>rw[AV.lo]
theorem ptrsE_lo:∀{xs:List SOpd} {vs:List Value},ptrsE G env xs=some vs->vs.all (loP n)=true
 |[],vs,h=>by cases h;rfl
 |x::xs,vs,h=>by
  simp only[ptrsE]at h
  split at h
  ·rename_i v us hv hu
   cases h
   obtain⟨y,hy,hp⟩:=bind_ok hv
   have hl:=opdE_lo he hy
   rw[List.all_cons,ptrsE_lo hu,Bool.and_true]
   unfold ptrE at hp
   split at hp
   ·cases hp;rw[AV.lo]at hl;exact hl
   ·cases hp
  ·cases h
theorem aqE_lo (hs:loS n σ=true) {so:SOp} (h:aqE G so env σ=some r):r.lo n=true:=by
 have O:=λ{x:SOpd} {v:AV} (h:opdE G env x=some v)=>opdE_lo he h
 cases so with
 |mov x=>exact O h
 |pick c a b=>
  simp only[aqE]at h
  split at h
  ·rename_i t x y h1 h2 h3
   cases h
   cases t
   ·exact O h3
   ·exact O h2
  ·cases h
 |nilCheck x=>
  obtain⟨v,hv,h⟩:=bind_ok h
  exact nilE_lo h (O hv)
 |load agg k x=>
  obtain⟨v,hv,h⟩:=bind_ok h
  exact loadXE_lo hs h (O hv)
 |loadF agg k x=>
  simp only[aqE]at h
  split at h
  ·rename_i cs hv
   have:=O hv
   rw[AV.lo]at this
   exact loadE_lo h this
  ·cases h
 |build zero parts=>
  simp only[aqE]at h
  split at h
  ·rename_i hz
   obtain⟨cs,hc,rfl⟩:=Option.map_eq_some_iff.1 h
   rw[AV.lo]
   exact fillE_lo he (loL_mono (Nat.zero_le n) _ (cheapL_ok hz)) hc
  ·cases h
 |fieldA off x=>
  obtain⟨v,hv,h⟩:=bind_ok h
  exact fieldE_lo h (O hv)
 |indexA sz x i=>
  simp only[aqE]at h
  split at h
  ·rename_i h1 h2;exact indexE_lo h (O h1)
  ·cases h
 |indexP len sz x i=>
  simp only[aqE]at h
  split at h
  ·rename_i h1 h2
   unfold indexPE at h
   split at h
   ·split at h
    ·exact fieldE_lo h (O h1)
    ·cases h
   ·cases h
  ·cases h
 |index x i=>
  simp only[aqE]at h
  split at h
  ·unfold charE at h
   split at h
   ·split at h
    ·cases h;rw[AV.lo]
    ·cases h
   ·cases h
  ·cases h
 |slice sz x lo hi=>
  simp only[aqE]at h
  split at h
  ·rename_i h1;exact sliceE_lo h (O h1)
  ·cases h
 |sliceS x lo hi=>
  simp only[aqE]at h
  split at h
  ·split at h
   ·split at h
    ·cases h;rw[AV.lo]
    ·cases h
   ·cases h
  ·cases h
 |field agg off k x=>
  simp only[aqE]at h
  split at h
  ·rename_i cs h1
   obtain⟨v,hv,h1⟩:=bind_ok h1
   obtain rfl:=aggE_ok h1
   have:=O hv
   rw[AV.lo]at this
   exact loadE_lo h (loL_drop this)
  ·cases h
 |extract i x=>
  obtain⟨v,hv,h⟩:=bind_ok h
  have:=O hv
  unfold tupE at h
  split at h
  ·split at h
   ·cases h;rw[AV.lo]at this;exact loL_getD this
   ·cases h
  ·cases h
 |bin op x y=>
  simp only[aqE]at h
  split at h
  ·exact binE_lo h
  ·cases h
 |eqb neg x y=>
  simp only[aqE]at h
  split at h
  ·cases h;rw[AV.lo]
  ·cases h
 |eqs neg ks x y=>
  simp only[aqE]at h
  split at h
  ·obtain⟨b,hb,rfl⟩:=Option.map_eq_some_iff.1 h
   rw[AV.lo]
  ·cases h
 |eqnil kind neg x=>
  obtain⟨v,hv,h⟩:=bind_ok h
  exact eqnilE_lo h
 |not x=>
  simp only[aqE]at h
  split at h
  ·cases h;rw[AV.lo]
  ·cases h
 |conv k x=>
  simp only[aqE]at h
  split at h
  ·cases h;rw[AV.lo]
  ·cases h
 |str x=>
  obtain⟨s,h1,rfl⟩:=Option.map_eq_some_iff.1 h
  rw[AV.lo]
 |len x=>
  obtain⟨v,hv,h⟩:=bind_ok h
  unfold lenE at h
  split at h<;>cases h<;>rw[AV.lo]
 |lenS x=>
  obtain⟨s,h1,rfl⟩:=Option.map_eq_some_iff.1 h
  rw[AV.lo]
 |mkfun fn first cap=>
  simp only[aqE]at h
  split at h
  ·rename_i vs us h1 h2
   cases h
   rw[AV.lo]
   simp only[loV,Bool.and_eq_true]
   exact⟨ptrsE_lo he h1,ptrsE_lo he h2⟩
  ·cases h
 |_=>cases h
end
end
end Go.Av
