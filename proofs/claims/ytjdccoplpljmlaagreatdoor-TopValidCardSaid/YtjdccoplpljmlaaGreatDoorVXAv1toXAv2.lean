/-
  ABSTRACT VALUES, 1: what a value of the model stands for, in which memory, and how that lasts while memory grows.
-/
import Derived.WalkKit
namespace Go.Av
open Go Go.RowKit List
set_option linter.unusedSimpArgs false
set_option linter.unusedVariables false
theorem AI {a b:Prop} (h:a) (k:b):a/\b:=⟨h,k⟩
theorem Da {p:Prop} [Decidable p]:(decide p=true)=p:=decide_eq_true_eq
theorem Db {p:Prop} [Decidable p]:decide p=false↔¬p:=decide_eq_false_iff_not
theorem Dc:(!true)=false:=rfl
theorem Dw:(!false)=true:=rfl
theorem De (b:Bool):((!b)=true)=(b=false):=Bool.not_eq_true' b
theorem Df (b:Bool):((!b)=false)=(b=true):=Bool.not_eq_false' b
theorem Dg {a b:Int}:¬a<b↔b<=a:=Int.not_lt
theorem Dh {a b:Int}:¬a<=b↔b<a:=Int.not_le
theorem DZ:(((∀{p:Prop} [Decidable p],(decide p=true)=p)/\(∀{p:Prop} [Decidable p],decide p=false↔¬p))/\((!true)=false/\(!false)=true))/\(((∀b:Bool,((!b)=true)=(b=false))/\∀b:Bool,((!b)=false)=(b=true))/\((∀{a b:Int},¬a<b↔b<=a)/\∀{a b:Int},¬a<=b↔b<a)):=AI (AI (AI @Da @Db) (AI Dc Dw)) (AI (AI De Df) (AI @Dg @Dh))
inductive AV where
 |any
 |bool (b:Bool)
 |int (k:IntKind) (n:Int)
 |str (s:List UInt8)
 |nil
 |sc (v:Value)
 |lst (sz:Nat) (rows:List (List AV))
 |own (b:Option Nat) (e:TypeId) (sz:Nat) (rows:List (List AV))
 |ref (cs:List AV)
 |agg (cs:List AV)
 |tup (cs:List AV)
 deriving Inhabited
inductive AObj where
 |cells (e:TypeId) (cs:List AV)
 |tok (e:TypeId) (k:Nat)
 |map (es:List (Value×AV))
 |mapB (es:List (Value×AV)) (bs:List Nat) (c:Nat)
 |iter (m since:Nat) (seen:Array Nat) (last:Nat)
 deriving Inhabited
abbrev Store:=List (Nat×AObj)
def AObj.mut:AObj->Nat->Prop
 | .cells _ _,_=>True
 | .tok _ k,o=>k<=o
 | .map _,_=>True
 | .mapB _ _ _,_=>True
 | .iter _ _ _ _,_=>True
def Mut (σ:Store) (b o:Nat):Prop:=∃x,(b,x)∈σ/\x.mut o
def Store.keys (σ:Store):List Nat:=σ.map (·.1)
theorem Mut.append {σ τ:Store} {b o:Nat}:Mut (σ++τ) b o↔Mut σ b o\/Mut τ b o:=by
 simp only[Mut,mem_append]
 constructor
 ·rintro⟨x,h|h,m⟩
  ·exact .inl ⟨x,h,m⟩
  ·exact .inr ⟨x,h,m⟩
 ·rintro(⟨x,h,m⟩|⟨x,h,m⟩)
  ·exact⟨x,.inl h,m⟩
  ·exact⟨x,.inr h,m⟩
theorem Mut.of_key {σ:Store} {b o:Nat} (h:Mut σ b o):b∈σ.keys:=by
 obtain⟨x,E,_⟩:=h
 exact mem_map.2 ⟨_,E,rfl⟩
theorem aB (σ τ:Store):Store.keys (σ++τ)=σ.keys++τ.keys:=by simp[Store.keys]
def jh (σ:Store) (w:World) (a:Addr) (u:Value):Prop:=w.cell? a=some u/\¬Mut σ a.block a.off
mutual
def Rep (σ:Store) (w:World):AV->Value->Prop
 | .any,_=>True
 | .bool b,u=>u= .bool b
 | .int k n,u=>u= .int k n
 | .str s,u=>u= .string ⟨⟨s⟩⟩
 | .nil,u=>u= .slice none 0 0
 | .sc v,u=>u=v
 | .lst sz rows,u=>(u= .slice none 0 0/\rows=[])\/∃a cap,u= .slice (some a) rows.length cap/\rows.length<=cap/\cap<=maxLen/\az σ w a sz 0 rows
 | .own none _ _ rows,u=>u= .slice none 0 0/\rows=[]
 | .own (some b) e sz rows,u=>∃cap,u= .slice (some ⟨b,0,none⟩) rows.length cap/\rows.length<=cap/\cap<=maxLen/\w.shape? b=some (e,cap*sz)/\az σ w ⟨b,0,none⟩ sz 0 rows
 | .ref cs,u=>∃a,u= .pointer (some a)/\RepAt σ w a 0 cs
 | .agg cs,u=>∃vs,u= .agg vs/\(∀v∈vs.toList,v.oneCell'=true)/\RepL σ w cs vs.toList
 | .tup cs,u=>∃vs,u= .tuple vs/\RepL σ w cs vs.toList
def RepL (σ:Store) (w:World):List AV->List Value->Prop
 |[],vs=>vs=[]
 |x::xs,vs=>∃u us,vs=u::us/\Rep σ w x u/\RepL σ w xs us
def RepAt (σ:Store) (w:World) (a:Addr):Nat->List AV->Prop
 |_,[]=>True
 |i,x::xs=>(∃u,jh σ w (a.add i) u/\u.oneCell'=true/\Rep σ w x u)/\RepAt σ w a (i+1) xs
def az (σ:Store) (w:World) (a:Addr) (sz:Nat):Nat->List (List AV)->Prop
 |_,[]=>True
 |i,r::rs=>r.length=sz/\RepAt σ w a (i*sz) r/\az σ w a sz (i+1) rs
end
structure Ev (σ:Store) (w:World) (σ':Store) (w':World):Prop where
 os:w'.os=w.os
 tape:w'.tape=w.tape
 output:w'.output=w.output
 size:w.heap.size<=w'.heap.size
 block:∀b,b<w.heap.size->b∉σ.keys->w'.heap[b]? =w.heap[b]? /\b∉σ'.keys
 shape:∀b s,w.shape? b=some s->w'.shape? b=some s
 cell:∀a v,w.cell? a=some v->¬Mut σ a.block a.off->w'.cell? a=some v/\¬Mut σ' a.block a.off
theorem Ev.refl (σ:Store) (w:World):Ev σ w σ w:=
 ⟨rfl,rfl,rfl,Nat.le_refl _,λ_ _ h=>⟨rfl,h⟩,λ_ _ h=>h,λ_ _ h E=>⟨h,E⟩⟩
theorem Ev.trans {σ E F:Store} {w I J:World} (h:Ev σ w E I) (k:Ev E I F J):Ev σ w F J where
 os:=k.os.trans h.os
 tape:=k.tape.trans h.tape
 output:=k.output.trans h.output
 size:=Nat.le_trans h.size k.size
 block b hb hn:=by
  obtain⟨M,N⟩:=h.block b hb hn
  obtain⟨k1,O⟩:=k.block b (Nat.lt_of_lt_of_le hb h.size) N
  exact⟨k1.trans M,O⟩
 shape b s hs:=k.shape b s (h.shape b s hs)
 cell a v hv hm:=by
  obtain⟨M,N⟩:=h.cell a v hv hm
  exact k.cell a v M N
theorem fq {w:World} {a:Addr} {v:Value} (h:w.cell? a=some v):a.block<w.heap.size:=by
 unfold World.cell? at h
 cases E:w.heap[a.block]? with
 |none=>simp[E]at h
 |some o=>exact(Array.getElem?_eq_some_iff.1 E).1
theorem jh.ev {σ σ' ρ:Store} {w w':World} (I:Ev σ w σ' w') {a:Addr} {u:Value} (h:jh (σ++ρ) w a u):jh (σ'++ρ) w' a u:=by
 obtain⟨F,E⟩:=h
 rw[Mut.append]at E
 obtain⟨k1,J⟩:=I.cell a u F (λm=>E (.inl m))
 exact⟨k1,by rw[Mut.append];exact λm=>m.elim J (λm=>E (.inr m))⟩
mutual
theorem Rep.ev {σ σ' ρ:Store} {w w':World} (E:Ev σ w σ' w'):∀(x:AV) (u:Value),Rep (σ++ρ) w x u->Rep (σ'++ρ) w' x u
 | .any,_,_=>by simp only[Rep]
 | .bool b,u,h=>by simp only[Rep]at*;exact h
 | .int k n,u,h=>by simp only[Rep]at*;exact h
 | .str s,u,h=>by simp only[Rep]at*;exact h
 | .nil,u,h=>by simp only[Rep]at*;exact h
 | .sc v,u,h=>by simp only[Rep]at*;exact h
 | .lst sz rows,u,h=>by
  simp only[Rep]at*
  rcases h with h|⟨a,cap,F,I,J,M⟩
  ·exact .inl h
  ·exact .inr ⟨a,cap,F,I,J,az.ev E a sz 0 rows M⟩
 | .own none _ _ rows,u,h=>by simp only[Rep]at*;exact h
 | .own (some b) e sz rows,u,h=>by
  simp only[Rep]at*
  obtain⟨cap,F,I,J,M,N⟩:=h
  exact⟨cap,F,I,J,E.shape _ _ M,az.ev E _ sz 0 rows N⟩
 | .ref cs,u,h=>by
  simp only[Rep]at*
  obtain⟨a,F,I⟩:=h
  exact⟨a,F,RepAt.ev E a 0 cs I⟩
 | .agg cs,u,h=>by
  simp only[Rep]at*
  obtain⟨vs,F,I,J⟩:=h
  exact⟨vs,F,I,RepL.ev E cs _ J⟩
 | .tup cs,u,h=>by
  simp only[Rep]at*
  obtain⟨vs,F,I⟩:=h
  exact⟨vs,F,RepL.ev E cs _ I⟩
theorem RepL.ev {σ σ' ρ:Store} {w w':World} (E:Ev σ w σ' w'):∀(xs:List AV) (us:List Value),RepL (σ++ρ) w xs us->RepL (σ'++ρ) w' xs us
 |[],us,h=>by simp only[RepL]at*;exact h
 |x::xs,vs,h=>by
  simp only[RepL]at*
  obtain⟨u,us,F,I,J⟩:=h
  exact⟨u,us,F,Rep.ev E x u I,RepL.ev E xs us J⟩
theorem RepAt.ev {σ σ' ρ:Store} {w w':World} (E:Ev σ w σ' w') (a:Addr):∀(i:Nat) (xs:List AV),RepAt (σ++ρ) w a i xs->RepAt (σ'++ρ) w' a i xs
 |_,[],_=>by simp only[RepAt]
 |i,x::xs,h=>by
  simp only[RepAt]at*
  obtain⟨⟨u,F,O,I⟩,J⟩:=h
  exact⟨⟨u,F.ev E,O,Rep.ev E x u I⟩,RepAt.ev E a (i+1) xs J⟩
theorem az.ev {σ σ' ρ:Store} {w w':World} (E:Ev σ w σ' w') (a:Addr) (sz:Nat):∀(i:Nat) (rs:List (List AV)),az (σ++ρ) w a sz i rs->az (σ'++ρ) w' a sz i rs
 |_,[],_=>by simp only[az]
 |i,r::rs,h=>by
  simp only[az]at*
  obtain⟨F,I,J⟩:=h
  exact⟨F,RepAt.ev E a _ r I,az.ev E a sz (i+1) rs J⟩
end
/-! ### lists of represented values -/
theorem RepL.length {σ:Store} {w:World}:∀{xs:List AV} {us:List Value},RepL σ w xs us->us.length=xs.length
 |[],us,h=>by simp only[RepL]at h;simp[h]
 |x::xs,us,h=>by
  simp only[RepL]at h
  obtain⟨u,F,rfl,_,E⟩:=h
  simp[RepL.length E]
theorem RepL.get {σ:Store} {w:World}:∀{xs:List AV} {us:List Value},RepL σ w xs us->∀(i:Nat) (h:i<xs.length) (J:i<us.length),Rep σ w xs[i] us[i]
 |[],us,_,i,hi,_=>by simp at hi
 |x::xs,us,h,i,hi,hi'=>by
  simp only[RepL]at h
  obtain⟨u,I,rfl,E,F⟩:=h
  cases i with
  |zero=>simpa using E
  |succ i=>simpa using RepL.get F i (by simpa using hi) (by simpa using hi')
theorem RepL.of_get {σ:Store} {w:World}:∀{xs:List AV} {us:List Value},us.length=xs.length->(∀(i:Nat) (h:i<xs.length) (F:i<us.length),Rep σ w xs[i] us[i])->RepL σ w xs us
 |[],us,hl,_=>by simp only[RepL];exact eq_nil_of_length_eq_zero (by simpa using hl)
 |x::xs,[],hl,_=>by simp at hl
 |x::xs,u::us,hl,h=>by
  simp only[RepL]
  exact⟨u,us,rfl,h 0 (by simp) (by simp),RepL.of_get (by simpa using hl) (λi hi E=>h (i+1) (by simpa using hi) (by simpa using E))⟩
theorem RepL.append {σ:Store} {w:World}:∀{xs ys:List AV} {us vs:List Value},RepL σ w xs us->RepL σ w ys vs->RepL σ w (xs++ys) (us++vs)
 |[],ys,us,vs,h,k=>by simp only[RepL]at h;simpa[h]using k
 |x::xs,ys,us,vs,h,k=>by
  simp only[RepL]at h
  obtain⟨u,I,rfl,E,F⟩:=h
  simp only[cons_append,RepL]
  exact⟨u,_,rfl,E,RepL.append F k⟩
theorem RepL.drop {σ:Store} {w:World}:∀(n:Nat) {xs:List AV} {us:List Value},RepL σ w xs us->RepL σ w (xs.drop n) (us.drop n)
 |0,xs,us,h=>by simpa using h
 |n+1,[],us,h=>by simp only[RepL]at h;simp[h,RepL]
 |n+1,x::xs,us,h=>by
  simp only[RepL]at h
  obtain⟨u,F,rfl,_,E⟩:=h
  simpa using RepL.drop n E
theorem RepL.take {σ:Store} {w:World}:∀(n:Nat) {xs:List AV} {us:List Value},RepL σ w xs us->RepL σ w (xs.take n) (us.take n)
 |0,xs,us,_=>by simp[RepL]
 |n+1,[],us,h=>by simp only[RepL]at h;simp[h,RepL]
 |n+1,x::xs,us,h=>by
  simp only[RepL]at h
  obtain⟨u,I,rfl,E,F⟩:=h
  simp only[take_succ_cons,RepL]
  exact⟨u,_,rfl,E,RepL.take n F⟩
theorem iv (a:Addr) (i j:Nat):(a.add i).add j=a.add (i+j):=by
 unfold Addr.add
 by_cases E:i=0
 ·simp[E]
 ·by_cases F:j=0
  ·simp[F]
  ·simp[E,F,Nat.add_assoc]
theorem add_block (a:Addr) (i:Nat):(a.add i).block=a.block:=by unfold Addr.add;split<;>rfl
theorem add_lit (b o i:Nat):(⟨b,o,none⟩:Addr).add i=⟨b,o+i,none⟩:=by unfold Addr.add;split<;>simp_all
theorem RepAt.get {σ:Store} {w:World} {a:Addr}:∀{i:Nat} {xs:List AV},RepAt σ w a i xs->∀(j:Nat) (h:j<xs.length),∃u,jh σ w (a.add (i+j)) u/\u.oneCell'=true/\Rep σ w xs[j] u
 |i,[],_,j,hj=>by simp at hj
 |i,x::xs,h,j,hj=>by
  simp only[RepAt]at h
  cases j with
  |zero=>simpa using h.1
  |succ j=>
   have:=RepAt.get h.2 j (by simpa using hj)
   simpa[Nat.add_assoc,Nat.add_comm 1 j]using this
theorem RepAt.of_get {σ:Store} {w:World} {a:Addr}:∀{i:Nat} {xs:List AV},(∀(j:Nat) (h:j<xs.length),∃u,jh σ w (a.add (i+j)) u/\u.oneCell'=true/\Rep σ w xs[j] u)->RepAt σ w a i xs
 |i,[],_=>by simp only[RepAt]
 |i,x::xs,h=>by
  simp only[RepAt]
  exact⟨h 0 (by simp),RepAt.of_get λj E=>by
   have:=h (j+1) (by simpa using E)
   rw[show i+(j+1)=i+1+j by omega]at this
   exact this⟩
theorem RepAt.shift {σ:Store} {w:World} {a:Addr} {i:Nat} {xs:List AV} (h:RepAt σ w a i xs):RepAt σ w (a.add i) 0 xs:=
 RepAt.of_get λj E=>by rw[iv];simpa using h.get j E
theorem RepAt.drop {σ:Store} {w:World} {a:Addr} (n:Nat) {xs:List AV} (h:RepAt σ w a 0 xs):RepAt σ w (a.add n) 0 (xs.drop n):=
 RepAt.of_get λj E=>by
  rw[iv]
  have:=h.get (n+j) (by simp at E;omega)
  simpa[getElem_drop]using this
theorem RepAt.take {σ:Store} {w:World} {a:Addr} (n:Nat) {i:Nat} {xs:List AV} (h:RepAt σ w a i xs):RepAt σ w a i (xs.take n):=
 RepAt.of_get λj E=>by
  have:=h.get j (by simp at E;omega)
  simpa[getElem_take]using this
theorem az.get {σ:Store} {w:World} {a:Addr} {sz:Nat}:∀{i:Nat} {rows:List (List AV)},az σ w a sz i rows->∀(j:Nat) (h:j<rows.length),rows[j].length=sz/\RepAt σ w a ((i+j)*sz) rows[j]
 |i,[],_,j,hj=>by simp at hj
 |i,r::rs,h,j,hj=>by
  simp only[az]at h
  cases j with
  |zero=>simpa using⟨h.1,h.2.1⟩
  |succ j=>
   have:=az.get h.2.2 j (by simpa using hj)
   simpa[Nat.add_assoc,Nat.add_comm 1 j]using this
theorem az.of_get {σ:Store} {w:World} {a:Addr} {sz:Nat}:∀{i:Nat} {rows:List (List AV)},(∀(j:Nat) (h:j<rows.length),rows[j].length=sz/\RepAt σ w a ((i+j)*sz) rows[j])->az σ w a sz i rows
 |i,[],_=>by simp only[az]
 |i,r::rs,h=>by
  simp only[az]
  have E:=h 0 (by simp)
  exact⟨E.1,E.2,az.of_get λj F=>by
   have:=h (j+1) (by simpa using F)
   rw[show i+(j+1)=i+1+j by omega]at this
   exact this⟩
theorem az.ref {σ:Store} {w:World} {a:Addr} {sz:Nat} {rows:List (List AV)} (h:az σ w a sz 0 rows) (j:Nat) (E:j<rows.length):RepAt σ w (a.add (j*sz)) 0 rows[j]:=by
 have:=(h.get j E).2
 rw[Nat.zero_add]at this
 exact this.shift
theorem az.drop {σ:Store} {w:World} {a:Addr} {sz:Nat} (n:Nat) {rows:List (List AV)} (h:az σ w a sz 0 rows):az σ w (a.add (n*sz)) sz 0 (rows.drop n):=
 az.of_get λj F=>by
  have:=h.get (n+j) (by simp at F;omega)
  simp only[getElem_drop]
  refine⟨this.1,?_⟩
  refine RepAt.of_get λk I=>?_
  have E:=this.2.get k I
  rw[iv]
  rw[show n*sz+((0+j)*sz+k)=(0+(n+j))*sz+k by simp[Nat.add_mul];omega]
  exact E
theorem az.take {σ:Store} {w:World} {a:Addr} {sz:Nat} (n:Nat) {i:Nat} {rows:List (List AV)} (h:az σ w a sz i rows):az σ w a sz i (rows.take n):=
 az.of_get λj E=>by
  have:=h.get j (by simp at E;omega)
  simpa[getElem_take]using this
/-! ### a smaller store -/
def Sub (σ' σ:Store):Prop:=∀p∈σ',p∈σ
theorem Mut.sub {σ' σ:Store} (h:Sub σ' σ) {b o:Nat} (m:Mut σ' b o):Mut σ b o:=by
 obtain⟨x,F,E⟩:=m
 exact⟨x,h _ F,E⟩
theorem cj {σ' σ:Store} (h:Sub σ' σ) {b:Nat} (E:b∈σ'.keys):b∈σ.keys:=by
 obtain⟨p,F,rfl⟩:=mem_map.1 E
 exact mem_map.2 ⟨p,h _ F,rfl⟩
theorem Ev.of_sub {σ' σ:Store} (h:Sub σ' σ) (w:World):Ev σ w σ' w:=
 ⟨rfl,rfl,rfl,Nat.le_refl _,λ_ _ I=>⟨rfl,λE=>I (cj h E)⟩,λ_ _ h=>h,λ_ _ J F=>⟨J,λm=>F (m.sub h)⟩⟩
theorem Rep.sub {σ' σ:Store} {w:World} (h:Sub σ' σ) {x:AV} {u:Value} (E:Rep σ w x u):Rep σ' w x u:=by
 have:=Rep.ev (ρ:=[]) (Ev.of_sub h w) x u (by simpa using E)
 simpa using this
theorem RepL.sub {σ' σ:Store} {w:World} (h:Sub σ' σ) {x:List AV} {u:List Value} (E:RepL σ w x u):RepL σ' w x u:=by
 have:=RepL.ev (ρ:=[]) (Ev.of_sub h w) x u (by simpa using E)
 simpa using this
/-! ### the store holds in memory -/
def ObjSat (σ:Store) (w:World) (b:Nat):AObj->Prop
 | .cells e cs=>∃vs,w.heap[b]? =some (.cells vs e (0,0))/\(∀v∈vs.toList,v.oneCell'=true)/\RepL σ w cs vs.toList
 | .tok e k=>∃vs,w.heap[b]? =some (.cells vs e (0,0))/\k<=vs.size/\∀v∈vs.toList,v.oneCell'=true
 | .map es=>∃ents E,w.heap[b]? =some (.map ents E)/\ents.toList.map (·.key)=es.map (·.1)/\RepL σ w (es.map (·.2)) (ents.toList.map (·.val))/\(ents.toList.map (·.born)).Nodup/\∀e∈ents.toList,e.born<E
 | .mapB es bs c=>∃ents,w.heap[b]? =some (.map ents c)/\ents.toList.map (·.key)=es.map (·.1)/\RepL σ w (es.map (·.2)) (ents.toList.map (·.val))/\ents.toList.map (·.born)=bs
 | .iter m since seen last=>w.heap[b]? =some (.mapIter (some m) since seen last)
structure Glob where
 tab:Nat->Option (List AV)
 holds:Store->World->Prop
 ev:∀{σ σ' ρ:Store} {w w':World},Ev σ w σ' w'->holds (σ++ρ) w->holds (σ'++ρ) w'
 tabs:∀{σ:Store} {w:World} {g:Nat} {cs:List AV},holds σ w->tab g=some cs->RepAt σ w ⟨g,0,none⟩ 0 cs
structure Sat (G:Glob) (σ:Store) (w:World):Prop where
 nodup:σ.keys.Nodup
 obj:∀b x,(b,x)∈σ->ObjSat σ w b x
 glob:G.holds σ w
theorem ObjSat.lt {σ:Store} {w:World} {b:Nat} {x:AObj} (h:ObjSat σ w b x):b<w.heap.size:=by
 cases x with
 |cells e cs=>obtain⟨vs,h,_⟩:=h;exact(Array.getElem?_eq_some_iff.1 h).1
 |tok e k=>obtain⟨vs,h,_⟩:=h;exact(Array.getElem?_eq_some_iff.1 h).1
 |map es=>obtain⟨ents,c,h,_⟩:=h;exact(Array.getElem?_eq_some_iff.1 h).1
 |mapB es bs c=>obtain⟨ents,h,_⟩:=h;exact(Array.getElem?_eq_some_iff.1 h).1
 |iter m s se l=>exact(Array.getElem?_eq_some_iff.1 h).1
theorem Sat.key_lt {G:Glob} {σ:Store} {w:World} (h:Sat G σ w) {b:Nat} (E:b∈σ.keys):b<w.heap.size:=by
 obtain⟨p,F,rfl⟩:=mem_map.1 E
 exact(h.obj p.1 p.2 F).lt
theorem ObjSat.ev {σ σ' ρ:Store} {w w':World} (M:Ev σ w σ' w') {b:Nat} {x:AObj} (T:b∉σ.keys) (h:ObjSat (σ++ρ) w b x):ObjSat (σ'++ρ) w' b x:=by
 have O:=h.lt
 have J:=(M.block b O T).1
 cases x with
 |cells e cs=>
  obtain⟨vs,E,F,I⟩:=h
  exact⟨vs,J.trans E,F,RepL.ev M _ _ I⟩
 |tok e k=>
  obtain⟨vs,E,F⟩:=h
  exact⟨vs,J.trans E,F⟩
 |map es=>
  obtain⟨ents,c,E,F,I,N⟩:=h
  exact⟨ents,c,J.trans E,F,RepL.ev M _ _ I,N⟩
 |mapB es bs c=>
  obtain⟨ents,E,F,I,N⟩:=h
  exact⟨ents,J.trans E,F,RepL.ev M _ _ I,N⟩
 |iter m s se l=>exact J.trans h
theorem Sat.step {G:Glob} {σ σ' ρ:Store} {w w':World} (h:Sat G (σ++ρ) w) (J:Ev σ w σ' w') (T:σ'.keys.Nodup)
  (O:∀b,b∈σ'.keys->b∈σ.keys\/w.heap.size<=b) (V:∀b x,(b,x)∈σ'->ObjSat (σ'++ρ) w' b x):Sat G (σ'++ρ) w' where
 nodup:=by
  have E:=h.nodup
  rw[aB]at E ⊢
  obtain⟨_,M,N⟩:=nodup_append.1 E
  refine nodup_append.2 ⟨T,M,λb F c I e=>?_⟩
  subst e
  rcases O b F with h4|h4
  ·exact N b h4 b I rfl
  ·have:=h.key_lt (b:=b) (by rw[aB];exact mem_append.2 (.inr I))
   omega
 obj b x hx:=by
  rcases mem_append.1 hx with hx|hx
  ·exact V b x hx
  ·refine ObjSat.ev J ?_ (h.obj b x (mem_append.2 (.inr hx)))
   intro F
   have E:=h.nodup
   rw[aB]at E
   exact(nodup_append.1 E).2.2 b F b (mem_map.2 ⟨_,hx,rfl⟩) rfl
 glob:=G.ev J h.glob
theorem ObjSat.sub {σ σ':Store} {w:World} (M:Sub σ' σ) {b:Nat} {x:AObj} (h:ObjSat σ w b x):ObjSat σ' w b x:=by
 cases x with
 |cells e cs=>
  obtain⟨vs,E,F,I⟩:=h
  exact⟨vs,E,F,RepL.sub M I⟩
 |tok e k=>exact h
 |map es=>
  obtain⟨ents,c,E,F,I,J⟩:=h
  exact⟨ents,c,E,F,RepL.sub M I,J⟩
 |mapB es bs c=>
  obtain⟨ents,E,F,I,J⟩:=h
  exact⟨ents,E,F,RepL.sub M I,J⟩
 |iter m s se l=>exact h
theorem Sat.sub {G:Glob} {σ σ':Store} {w:World} (h:Sat G σ w) (E:Sub σ' σ) (F:σ'.keys.Nodup):Sat G σ' w where
 nodup:=F
 obj b x hx:=ObjSat.sub E (h.obj b x (E _ hx))
 glob:=by
  have:=G.ev (ρ:=[]) (Ev.of_sub E w) (by simpa using h.glob)
  simpa using this
/-! ### new blocks -/
theorem Ev.alloc {σ:Store} {w:World} (o:Obj) (x:AObj):Ev σ w ((w.heap.size,x)::σ) (w.alloc o) where
 os:=rfl
 tape:=rfl
 output:=rfl
 size:=by simp
 block b E hn:=⟨Below.heap_alloc w o b E,by
  simp only[Store.keys,map_cons,mem_cons,not_or]
  exact⟨by omega,hn⟩⟩
 shape b s hs:=by
  have E:b<w.heap.size:=by
   unfold World.shape? at hs
   cases h:w.heap[b]? with
   |none=>simp[h]at hs
   |some o=>exact(Array.getElem?_eq_some_iff.1 h).1
  unfold World.shape? at*
  rw[Below.heap_alloc w o b E]
  exact hs
 cell a v hv hm:=by
  have E:=fq hv
  refine⟨by rw[World.cell?_alloc_lt w o a E];exact hv,?_⟩
  rintro⟨y,F,I⟩
  rcases mem_cons.1 F with e|F
  ·have:a.block=w.heap.size:=congrArg Prod.fst e
   omega
  ·exact hm ⟨y,F,I⟩
theorem Ev.alloc0 {σ:Store} {w:World} (o:Obj):Ev σ w σ (w.alloc o) where
 os:=rfl
 tape:=rfl
 output:=rfl
 size:=by simp
 block b E hn:=⟨Below.heap_alloc w o b E,hn⟩
 shape b s hs:=by
  have E:b<w.heap.size:=by
   unfold World.shape? at hs
   cases h:w.heap[b]? with
   |none=>simp[h]at hs
   |some o=>exact(Array.getElem?_eq_some_iff.1 h).1
  unfold World.shape? at*
  rw[Below.heap_alloc w o b E]
  exact hs
 cell a v hv hm:=⟨by rw[World.cell?_alloc_lt w o a (fq hv)];exact hv,hm⟩
theorem Ev.drew {σ:Store} {w:World}:Ev σ w σ w.drew:=
 ⟨rfl,rfl,rfl,Nat.le_refl _,λ_ _ h=>⟨rfl,h⟩,λ_ _ h=>h,λ_ _ h E=>⟨h,E⟩⟩
end Go.Av
