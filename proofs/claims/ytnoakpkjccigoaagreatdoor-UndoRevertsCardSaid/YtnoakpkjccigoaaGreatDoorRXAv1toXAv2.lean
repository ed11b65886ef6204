/-
  ABSTRACT VALUES, 1: what a value of the model stands for, in which memory, and how that lasts while memory grows.
-/
import Derived.WalkKit
namespace Go.Av
open Go Go.RowKit List
set_option linter.unusedSimpArgs false
set_option linter.unusedVariables false
theorem AI {a b:Prop} (h:a) (k:b):a/\b:=⟨h,k⟩
theorem Da {p:Prop} [Decidable p]:(decide p=true)=p:=decide_eq_true_eq
theorem Db {p:Prop} [Decidable p]:decide p=false↔¬p:=decide_eq_false_iff_not
theorem Dc:(!true)=false:=rfl
theorem Dw:(!false)=true:=rfl
theorem De (b:Bool):((!b)=true)=(b=false):=Bool.not_eq_true' b
theorem Df (b:Bool):((!b)=false)=(b=true):=Bool.not_eq_false' b
theorem Dg {a b:Int}:¬a<b↔b<=a:=Int.not_lt
theorem Dh {a b:Int}:¬a<=b↔b<a:=Int.not_le
theorem DZ:(((∀{p:Prop} [Decidable p],(decide p=true)=p)/\(∀{p:Prop} [Decidable p],decide p=false↔¬p))/\((!true)=false/\(!false)=true))/\(((∀b:Bool,((!b)=true)=(b=false))/\∀b:Bool,((!b)=false)=(b=true))/\((∀{a b:Int},¬a<b↔b<=a)/\∀{a b:Int},¬a<=b↔b<a)):=AI (AI (AI @Da @Db) (AI Dc Dw)) (AI (AI De Df) (AI @Dg @Dh))
inductive AV where
 |any
 |bool (b:Bool)
 |int (k:IntKind) (n:Int)
 |str (s:List UInt8)
 |nil
 |sc (v:Value)
 |lst (sz:Nat) (rows:List (List AV))
 |own (b:Option Nat) (e:TypeId) (sz:Nat) (rows:List (List AV))
 |ref (cs:List AV)
 |agg (cs:List AV)
 |tup (cs:List AV)
 deriving Inhabited
inductive AObj where
 |cells (e:TypeId) (cs:List AV)
 |tok (e:TypeId) (k:Nat)
 |map (es:List (Value×AV))
 deriving Inhabited
abbrev Store:=List (Nat×AObj)
def AObj.mut:AObj->Nat->Prop
 | .cells _ _,_=>True
 | .tok _ k,o=>k<=o
 | .map _,_=>True
def Mut (σ:Store) (b o:Nat):Prop:=∃x,(b,x)∈σ/\x.mut o
def Store.keys (σ:Store):List Nat:=σ.map (·.1)
theorem Mut.append {σ τ:Store} {b o:Nat}:Mut (σ++τ) b o↔Mut σ b o\/Mut τ b o:=by
 simp only[Mut,mem_append]
 constructor
 ·rintro⟨x,h|h,m⟩
  ·exact .inl ⟨x,h,m⟩
  ·exact .inr ⟨x,h,m⟩
 ·rintro(⟨x,h,m⟩|⟨x,h,m⟩)
  ·exact⟨x,.inl h,m⟩
  ·exact⟨x,.inr h,m⟩
theorem Mut.of_key {σ:Store} {b o:Nat} (h:Mut σ b o):b∈σ.keys:=by
 obtain⟨x,D,_⟩:=h
 exact mem_map.2 ⟨_,D,rfl⟩
theorem az (σ τ:Store):Store.keys (σ++τ)=σ.keys++τ.keys:=by simp[Store.keys]
def jq (σ:Store) (w:World) (a:Addr) (u:Value):Prop:=w.cell? a=some u/\¬Mut σ a.block a.off
mutual
def Rep (σ:Store) (w:World):AV->Value->Prop
 | .any,_=>True
 | .bool b,u=>u= .bool b
 | .int k n,u=>u= .int k n
 | .str s,u=>u= .string ⟨⟨s⟩⟩
 | .nil,u=>u= .slice none 0 0
 | .sc v,u=>u=v
 | .lst sz rows,u=>(u= .slice none 0 0/\rows=[])\/∃a cap,u= .slice (some a) rows.length cap/\rows.length<=cap/\cap<=maxLen/\ar σ w a sz 0 rows
 | .own none _ _ rows,u=>u= .slice none 0 0/\rows=[]
 | .own (some b) e sz rows,u=>∃cap,u= .slice (some ⟨b,0,none⟩) rows.length cap/\rows.length<=cap/\cap<=maxLen/\w.shape? b=some (e,cap*sz)/\ar σ w ⟨b,0,none⟩ sz 0 rows
 | .ref cs,u=>∃a,u= .pointer (some a)/\RepAt σ w a 0 cs
 | .agg cs,u=>∃vs,u= .agg vs/\(∀v∈vs.toList,v.oneCell'=true)/\RepL σ w cs vs.toList
 | .tup cs,u=>∃vs,u= .tuple vs/\RepL σ w cs vs.toList
def RepL (σ:Store) (w:World):List AV->List Value->Prop
 |[],vs=>vs=[]
 |x::xs,vs=>∃u us,vs=u::us/\Rep σ w x u/\RepL σ w xs us
def RepAt (σ:Store) (w:World) (a:Addr):Nat->List AV->Prop
 |_,[]=>True
 |i,x::xs=>(∃u,jq σ w (a.add i) u/\u.oneCell'=true/\Rep σ w x u)/\RepAt σ w a (i+1) xs
def ar (σ:Store) (w:World) (a:Addr) (sz:Nat):Nat->List (List AV)->Prop
 |_,[]=>True
 |i,r::rs=>r.length=sz/\RepAt σ w a (i*sz) r/\ar σ w a sz (i+1) rs
end
structure Ev (σ:Store) (w:World) (σ':Store) (w':World):Prop where
 os:w'.os=w.os
 tape:w'.tape=w.tape
 output:w'.output=w.output
 size:w.heap.size<=w'.heap.size
 block:∀b,b<w.heap.size->b∉σ.keys->w'.heap[b]? =w.heap[b]? /\b∉σ'.keys
 shape:∀b s,w.shape? b=some s->w'.shape? b=some s
 cell:∀a v,w.cell? a=some v->¬Mut σ a.block a.off->w'.cell? a=some v/\¬Mut σ' a.block a.off
theorem Ev.refl (σ:Store) (w:World):Ev σ w σ w:=
 ⟨rfl,rfl,rfl,Nat.le_refl _,λ_ _ h=>⟨rfl,h⟩,λ_ _ h=>h,λ_ _ h D=>⟨h,D⟩⟩
theorem Ev.trans {σ D E:Store} {w F I:World} (h:Ev σ w D F) (k:Ev D F E I):Ev σ w E I where
 os:=k.os.trans h.os
 tape:=k.tape.trans h.tape
 output:=k.output.trans h.output
 size:=Nat.le_trans h.size k.size
 block b hb hn:=by
  obtain⟨J,M⟩:=h.block b hb hn
  obtain⟨k1,N⟩:=k.block b (Nat.lt_of_lt_of_le hb h.size) M
  exact⟨k1.trans J,N⟩
 shape b s hs:=k.shape b s (h.shape b s hs)
 cell a v hv hm:=by
  obtain⟨J,M⟩:=h.cell a v hv hm
  exact k.cell a v J M
theorem fv {w:World} {a:Addr} {v:Value} (h:w.cell? a=some v):a.block<w.heap.size:=by
 unfold World.cell? at h
 cases D:w.heap[a.block]? with
 |none=>simp[D]at h
 |some o=>exact(Array.getElem?_eq_some_iff.1 D).1
theorem jq.ev {σ σ' ρ:Store} {w w':World} (F:Ev σ w σ' w') {a:Addr} {u:Value} (h:jq (σ++ρ) w a u):jq (σ'++ρ) w' a u:=by
 obtain⟨E,D⟩:=h
 rw[Mut.append]at D
 obtain⟨k1,I⟩:=F.cell a u E (λm=>D (.inl m))
 exact⟨k1,by rw[Mut.append];exact λm=>m.elim I (λm=>D (.inr m))⟩
mutual
theorem Rep.ev {σ σ' ρ:Store} {w w':World} (D:Ev σ w σ' w'):∀(x:AV) (u:Value),Rep (σ++ρ) w x u->Rep (σ'++ρ) w' x u
 | .any,_,_=>by simp only[Rep]
 | .bool b,u,h=>by simp only[Rep]at*;exact h
 | .int k n,u,h=>by simp only[Rep]at*;exact h
 | .str s,u,h=>by simp only[Rep]at*;exact h
 | .nil,u,h=>by simp only[Rep]at*;exact h
 | .sc v,u,h=>by simp only[Rep]at*;exact h
 | .lst sz rows,u,h=>by
  simp only[Rep]at*
  rcases h with h|⟨a,cap,E,F,I,J⟩
  ·exact .inl h
  ·exact .inr ⟨a,cap,E,F,I,ar.ev D a sz 0 rows J⟩
 | .own none _ _ rows,u,h=>by simp only[Rep]at*;exact h
 | .own (some b) e sz rows,u,h=>by
  simp only[Rep]at*
  obtain⟨cap,E,F,I,J,M⟩:=h
  exact⟨cap,E,F,I,D.shape _ _ J,ar.ev D _ sz 0 rows M⟩
 | .ref cs,u,h=>by
  simp only[Rep]at*
  obtain⟨a,E,F⟩:=h
  exact⟨a,E,RepAt.ev D a 0 cs F⟩
 | .agg cs,u,h=>by
  simp only[Rep]at*
  obtain⟨vs,E,F,I⟩:=h
  exact⟨vs,E,F,RepL.ev D cs _ I⟩
 | .tup cs,u,h=>by
  simp only[Rep]at*
  obtain⟨vs,E,F⟩:=h
  exact⟨vs,E,RepL.ev D cs _ F⟩
theorem RepL.ev {σ σ' ρ:Store} {w w':World} (D:Ev σ w σ' w'):∀(xs:List AV) (us:List Value),RepL (σ++ρ) w xs us->RepL (σ'++ρ) w' xs us
 |[],us,h=>by simp only[RepL]at*;exact h
 |x::xs,vs,h=>by
  simp only[RepL]at*
  obtain⟨u,us,E,F,I⟩:=h
  exact⟨u,us,E,Rep.ev D x u F,RepL.ev D xs us I⟩
theorem RepAt.ev {σ σ' ρ:Store} {w w':World} (D:Ev σ w σ' w') (a:Addr):∀(i:Nat) (xs:List AV),RepAt (σ++ρ) w a i xs->RepAt (σ'++ρ) w' a i xs
 |_,[],_=>by simp only[RepAt]
 |i,x::xs,h=>by
  simp only[RepAt]at*
  obtain⟨⟨u,E,N,F⟩,I⟩:=h
  exact⟨⟨u,E.ev D,N,Rep.ev D x u F⟩,RepAt.ev D a (i+1) xs I⟩
theorem ar.ev {σ σ' ρ:Store} {w w':World} (D:Ev σ w σ' w') (a:Addr) (sz:Nat):∀(i:Nat) (rs:List (List AV)),ar (σ++ρ) w a sz i rs->ar (σ'++ρ) w' a sz i rs
 |_,[],_=>by simp only[ar]
 |i,r::rs,h=>by
  simp only[ar]at*
  obtain⟨E,F,I⟩:=h
  exact⟨E,RepAt.ev D a _ r F,ar.ev D a sz (i+1) rs I⟩
end
/-! ### lists of represented values -/
theorem RepL.length {σ:Store} {w:World}:∀{xs:List AV} {us:List Value},RepL σ w xs us->us.length=xs.length
 |[],us,h=>by simp only[RepL]at h;simp[h]
 |x::xs,us,h=>by
  simp only[RepL]at h
  obtain⟨u,E,rfl,_,D⟩:=h
  simp[RepL.length D]
theorem RepL.get {σ:Store} {w:World}:∀{xs:List AV} {us:List Value},RepL σ w xs us->∀(i:Nat) (h:i<xs.length) (I:i<us.length),Rep σ w xs[i] us[i]
 |[],us,_,i,hi,_=>by simp at hi
 |x::xs,us,h,i,hi,hi'=>by
  simp only[RepL]at h
  obtain⟨u,F,rfl,D,E⟩:=h
  cases i with
  |zero=>simpa using D
  |succ i=>simpa using RepL.get E i (by simpa using hi) (by simpa using hi')
theorem RepL.of_get {σ:Store} {w:World}:∀{xs:List AV} {us:List Value},us.length=xs.length->(∀(i:Nat) (h:i<xs.length) (E:i<us.length),Rep σ w xs[i] us[i])->RepL σ w xs us
 |[],us,hl,_=>by simp only[RepL];exact eq_nil_of_length_eq_zero (by simpa using hl)
 |x::xs,[],hl,_=>by simp at hl
 |x::xs,u::us,hl,h=>by
  simp only[RepL]
  exact⟨u,us,rfl,h 0 (by simp) (by simp),RepL.of_get (by simpa using hl) (λi hi D=>h (i+1) (by simpa using hi) (by simpa using D))⟩
theorem RepL.append {σ:Store} {w:World}:∀{xs ys:List AV} {us vs:List Value},RepL σ w xs us->RepL σ w ys vs->RepL σ w (xs++ys) (us++vs)
 |[],ys,us,vs,h,k=>by simp only[RepL]at h;simpa[h]using k
 |x::xs,ys,us,vs,h,k=>by
  simp only[RepL]at h
  obtain⟨u,F,rfl,D,E⟩:=h
  simp only[cons_append,RepL]
  exact⟨u,_,rfl,D,RepL.append E k⟩
theorem RepL.drop {σ:Store} {w:World}:∀(n:Nat) {xs:List AV} {us:List Value},RepL σ w xs us->RepL σ w (xs.drop n) (us.drop n)
 |0,xs,us,h=>by simpa using h
 |n+1,[],us,h=>by simp only[RepL]at h;simp[h,RepL]
 |n+1,x::xs,us,h=>by
  simp only[RepL]at h
  obtain⟨u,E,rfl,_,D⟩:=h
  simpa using RepL.drop n D
theorem RepL.take {σ:Store} {w:World}:∀(n:Nat) {xs:List AV} {us:List Value},RepL σ w xs us->RepL σ w (xs.take n) (us.take n)
 |0,xs,us,_=>by simp[RepL]
 |n+1,[],us,h=>by simp only[RepL]at h;simp[h,RepL]
 |n+1,x::xs,us,h=>by
  simp only[RepL]at h
  obtain⟨u,F,rfl,D,E⟩:=h
  simp only[take_succ_cons,RepL]
  exact⟨u,_,rfl,D,RepL.take n E⟩
theorem iD (a:Addr) (i j:Nat):(a.add i).add j=a.add (i+j):=by
 unfold Addr.add
 by_cases D:i=0
 ·simp[D]
 ·by_cases E:j=0
  ·simp[E]
  ·simp[D,E,Nat.add_assoc]
theorem add_block (a:Addr) (i:Nat):(a.add i).block=a.block:=by unfold Addr.add;split<;>rfl
theorem add_lit (b o i:Nat):(⟨b,o,none⟩:Addr).add i=⟨b,o+i,none⟩:=by unfold Addr.add;split<;>simp_all
theorem RepAt.get {σ:Store} {w:World} {a:Addr}:∀{i:Nat} {xs:List AV},RepAt σ w a i xs->∀(j:Nat) (h:j<xs.length),∃u,jq σ w (a.add (i+j)) u/\u.oneCell'=true/\Rep σ w xs[j] u
 |i,[],_,j,hj=>by simp at hj
 |i,x::xs,h,j,hj=>by
  simp only[RepAt]at h
  cases j with
  |zero=>simpa using h.1
  |succ j=>
   have:=RepAt.get h.2 j (by simpa using hj)
   simpa[Nat.add_assoc,Nat.add_comm 1 j]using this
theorem RepAt.of_get {σ:Store} {w:World} {a:Addr}:∀{i:Nat} {xs:List AV},(∀(j:Nat) (h:j<xs.length),∃u,jq σ w (a.add (i+j)) u/\u.oneCell'=true/\Rep σ w xs[j] u)->RepAt σ w a i xs
 |i,[],_=>by simp only[RepAt]
 |i,x::xs,h=>by
  simp only[RepAt]
  exact⟨h 0 (by simp),RepAt.of_get λj D=>by
   have:=h (j+1) (by simpa using D)
   rw[show i+(j+1)=i+1+j by omega]at this
   exact this⟩
theorem RepAt.shift {σ:Store} {w:World} {a:Addr} {i:Nat} {xs:List AV} (h:RepAt σ w a i xs):RepAt σ w (a.add i) 0 xs:=
 RepAt.of_get λj D=>by rw[iD];simpa using h.get j D
theorem RepAt.drop {σ:Store} {w:World} {a:Addr} (n:Nat) {xs:List AV} (h:RepAt σ w a 0 xs):RepAt σ w (a.add n) 0 (xs.drop n):=
 RepAt.of_get λj D=>by
  rw[iD]
  have:=h.get (n+j) (by simp at D;omega)
  simpa[getElem_drop]using this
theorem RepAt.take {σ:Store} {w:World} {a:Addr} (n:Nat) {i:Nat} {xs:List AV} (h:RepAt σ w a i xs):RepAt σ w a i (xs.take n):=
 RepAt.of_get λj D=>by
  have:=h.get j (by simp at D;omega)
  simpa[getElem_take]using this
theorem ar.get {σ:Store} {w:World} {a:Addr} {sz:Nat}:∀{i:Nat} {rows:List (List AV)},ar σ w a sz i rows->∀(j:Nat) (h:j<rows.length),rows[j].length=sz/\RepAt σ w a ((i+j)*sz) rows[j]
 |i,[],_,j,hj=>by simp at hj
 |i,r::rs,h,j,hj=>by
  simp only[ar]at h
  cases j with
  |zero=>simpa using⟨h.1,h.2.1⟩
  |succ j=>
   have:=ar.get h.2.2 j (by simpa using hj)
   simpa[Nat.add_assoc,Nat.add_comm 1 j]using this
theorem ar.of_get {σ:Store} {w:World} {a:Addr} {sz:Nat}:∀{i:Nat} {rows:List (List AV)},(∀(j:Nat) (h:j<rows.length),rows[j].length=sz/\RepAt σ w a ((i+j)*sz) rows[j])->ar σ w a sz i rows
 |i,[],_=>by simp only[ar]
 |i,r::rs,h=>by
  simp only[ar]
  have D:=h 0 (by simp)
  exact⟨D.1,D.2,ar.of_get λj E=>by
   have:=h (j+1) (by simpa using E)
   rw[show i+(j+1)=i+1+j by omega]at this
   exact this⟩
theorem ar.ref {σ:Store} {w:World} {a:Addr} {sz:Nat} {rows:List (List AV)} (h:ar σ w a sz 0 rows) (j:Nat) (D:j<rows.length):RepAt σ w (a.add (j*sz)) 0 rows[j]:=by
 have:=(h.get j D).2
 rw[Nat.zero_add]at this
 exact this.shift
theorem ar.drop {σ:Store} {w:World} {a:Addr} {sz:Nat} (n:Nat) {rows:List (List AV)} (h:ar σ w a sz 0 rows):ar σ w (a.add (n*sz)) sz 0 (rows.drop n):=
 ar.of_get λj E=>by
  have:=h.get (n+j) (by simp at E;omega)
  simp only[getElem_drop]
  refine⟨this.1,?_⟩
  refine RepAt.of_get λk F=>?_
  have D:=this.2.get k F
  rw[iD]
  rw[show n*sz+((0+j)*sz+k)=(0+(n+j))*sz+k by simp[Nat.add_mul];omega]
  exact D
theorem ar.take {σ:Store} {w:World} {a:Addr} {sz:Nat} (n:Nat) {i:Nat} {rows:List (List AV)} (h:ar σ w a sz i rows):ar σ w a sz i (rows.take n):=
 ar.of_get λj D=>by
  have:=h.get j (by simp at D;omega)
  simpa[getElem_take]using this
/-! ### a smaller store -/
def Sub (σ' σ:Store):Prop:=∀p∈σ',p∈σ
theorem Mut.sub {σ' σ:Store} (h:Sub σ' σ) {b o:Nat} (m:Mut σ' b o):Mut σ b o:=by
 obtain⟨x,E,D⟩:=m
 exact⟨x,h _ E,D⟩
theorem ct {σ' σ:Store} (h:Sub σ' σ) {b:Nat} (D:b∈σ'.keys):b∈σ.keys:=by
 obtain⟨p,E,rfl⟩:=mem_map.1 D
 exact mem_map.2 ⟨p,h _ E,rfl⟩
theorem Ev.of_sub {σ' σ:Store} (h:Sub σ' σ) (w:World):Ev σ w σ' w:=
 ⟨rfl,rfl,rfl,Nat.le_refl _,λ_ _ F=>⟨rfl,λD=>F (ct h D)⟩,λ_ _ h=>h,λ_ _ I E=>⟨I,λm=>E (m.sub h)⟩⟩
theorem Rep.sub {σ' σ:Store} {w:World} (h:Sub σ' σ) {x:AV} {u:Value} (D:Rep σ w x u):Rep σ' w x u:=by
 have:=Rep.ev (ρ:=[]) (Ev.of_sub h w) x u (by simpa using D)
 simpa using this
theorem RepL.sub {σ' σ:Store} {w:World} (h:Sub σ' σ) {x:List AV} {u:List Value} (D:RepL σ w x u):RepL σ' w x u:=by
 have:=RepL.ev (ρ:=[]) (Ev.of_sub h w) x u (by simpa using D)
 simpa using this
/-! ### the store holds in memory -/
def ObjSat (σ:Store) (w:World) (b:Nat):AObj->Prop
 | .cells e cs=>∃vs,w.heap[b]? =some (.cells vs e (0,0))/\(∀v∈vs.toList,v.oneCell'=true)/\RepL σ w cs vs.toList
 | .tok e k=>∃vs,w.heap[b]? =some (.cells vs e (0,0))/\k<=vs.size/\∀v∈vs.toList,v.oneCell'=true
 | .map es=>∃ents D,w.heap[b]? =some (.map ents D)/\ents.toList.map (·.key)=es.map (·.1)/\RepL σ w (es.map (·.2)) (ents.toList.map (·.val))
structure Glob where
 tab:Nat->Option (List AV)
 holds:Store->World->Prop
 ev:∀{σ σ' ρ:Store} {w w':World},Ev σ w σ' w'->holds (σ++ρ) w->holds (σ'++ρ) w'
 tabs:∀{σ:Store} {w:World} {g:Nat} {cs:List AV},holds σ w->tab g=some cs->RepAt σ w ⟨g,0,none⟩ 0 cs
structure Sat (G:Glob) (σ:Store) (w:World):Prop where
 nodup:σ.keys.Nodup
 obj:∀b x,(b,x)∈σ->ObjSat σ w b x
 glob:G.holds σ w
theorem ObjSat.lt {σ:Store} {w:World} {b:Nat} {x:AObj} (h:ObjSat σ w b x):b<w.heap.size:=by
 cases x with
 |cells e cs=>obtain⟨vs,h,_⟩:=h;exact(Array.getElem?_eq_some_iff.1 h).1
 |tok e k=>obtain⟨vs,h,_⟩:=h;exact(Array.getElem?_eq_some_iff.1 h).1
 |map es=>obtain⟨ents,c,h,_⟩:=h;exact(Array.getElem?_eq_some_iff.1 h).1
theorem Sat.key_lt {G:Glob} {σ:Store} {w:World} (h:Sat G σ w) {b:Nat} (D:b∈σ.keys):b<w.heap.size:=by
 obtain⟨p,E,rfl⟩:=mem_map.1 D
 exact(h.obj p.1 p.2 E).lt
theorem ObjSat.ev {σ σ' ρ:Store} {w w':World} (I:Ev σ w σ' w') {b:Nat} {x:AObj} (N:b∉σ.keys) (h:ObjSat (σ++ρ) w b x):ObjSat (σ'++ρ) w' b x:=by
 have M:=h.lt
 have J:=(I.block b M N).1
 cases x with
 |cells e cs=>
  obtain⟨vs,D,E,F⟩:=h
  exact⟨vs,J.trans D,E,RepL.ev I _ _ F⟩
 |tok e k=>
  obtain⟨vs,D,E⟩:=h
  exact⟨vs,J.trans D,E⟩
 |map es=>
  obtain⟨ents,c,D,E,F⟩:=h
  exact⟨ents,c,J.trans D,E,RepL.ev I _ _ F⟩
theorem Sat.step {G:Glob} {σ σ' ρ:Store} {w w':World} (h:Sat G (σ++ρ) w) (I:Ev σ w σ' w') (O:σ'.keys.Nodup)
  (N:∀b,b∈σ'.keys->b∈σ.keys\/w.heap.size<=b) (T:∀b x,(b,x)∈σ'->ObjSat (σ'++ρ) w' b x):Sat G (σ'++ρ) w' where
 nodup:=by
  have D:=h.nodup
  rw[az]at D ⊢
  obtain⟨_,J,M⟩:=nodup_append.1 D
  refine nodup_append.2 ⟨O,J,λb E c F e=>?_⟩
  subst e
  rcases N b E with h4|h4
  ·exact M b h4 b F rfl
  ·have:=h.key_lt (b:=b) (by rw[az];exact mem_append.2 (.inr F))
   omega
 obj b x hx:=by
  rcases mem_append.1 hx with hx|hx
  ·exact T b x hx
  ·refine ObjSat.ev I ?_ (h.obj b x (mem_append.2 (.inr hx)))
   intro E
   have D:=h.nodup
   rw[az]at D
   exact(nodup_append.1 D).2.2 b E b (mem_map.2 ⟨_,hx,rfl⟩) rfl
 glob:=G.ev I h.glob
theorem ObjSat.sub {σ σ':Store} {w:World} (I:Sub σ' σ) {b:Nat} {x:AObj} (h:ObjSat σ w b x):ObjSat σ' w b x:=by
 cases x with
 |cells e cs=>
  obtain⟨vs,D,E,F⟩:=h
  exact⟨vs,D,E,RepL.sub I F⟩
 |tok e k=>exact h
 |map es=>
  obtain⟨ents,c,D,E,F⟩:=h
  exact⟨ents,c,D,E,RepL.sub I F⟩
theorem Sat.sub {G:Glob} {σ σ':Store} {w:World} (h:Sat G σ w) (D:Sub σ' σ) (E:σ'.keys.Nodup):Sat G σ' w where
 nodup:=E
 obj b x hx:=ObjSat.sub D (h.obj b x (D _ hx))
 glob:=by
  have:=G.ev (ρ:=[]) (Ev.of_sub D w) (by simpa using h.glob)
  simpa using this
/-! ### new blocks -/
theorem Ev.alloc {σ:Store} {w:World} (o:Obj) (x:AObj):Ev σ w ((w.heap.size,x)::σ) (w.alloc o) where
 os:=rfl
 tape:=rfl
 output:=rfl
 size:=by simp
 block b D hn:=⟨Below.heap_alloc w o b D,by
  simp only[Store.keys,map_cons,mem_cons,not_or]
  exact⟨by omega,hn⟩⟩
 shape b s hs:=by
  have D:b<w.heap.size:=by
   unfold World.shape? at hs
   cases h:w.heap[b]? with
   |none=>simp[h]at hs
   |some o=>exact(Array.getElem?_eq_some_iff.1 h).1
  unfold World.shape? at*
  rw[Below.heap_alloc w o b D]
  exact hs
 cell a v hv hm:=by
  have D:=fv hv
  refine⟨by rw[World.cell?_alloc_lt w o a D];exact hv,?_⟩
  rintro⟨y,E,F⟩
  rcases mem_cons.1 E with e|E
  ·have:a.block=w.heap.size:=congrArg Prod.fst e
   omega
  ·exact hm ⟨y,E,F⟩
theorem Ev.alloc0 {σ:Store} {w:World} (o:Obj):Ev σ w σ (w.alloc o) where
 os:=rfl
 tape:=rfl
 output:=rfl
 size:=by simp
 block b D hn:=⟨Below.heap_alloc w o b D,hn⟩
 shape b s hs:=by
  have D:b<w.heap.size:=by
   unfold World.shape? at hs
   cases h:w.heap[b]? with
   |none=>simp[h]at hs
   |some o=>exact(Array.getElem?_eq_some_iff.1 h).1
  unfold World.shape? at*
  rw[Below.heap_alloc w o b D]
  exact hs
 cell a v hv hm:=⟨by rw[World.cell?_alloc_lt w o a (fv hv)];exact hv,hm⟩
theorem Ev.drew {σ:Store} {w:World}:Ev σ w σ w.drew:=
 ⟨rfl,rfl,rfl,Nat.le_refl _,λ_ _ h=>⟨rfl,h⟩,λ_ _ h=>h,λ_ _ h D=>⟨h,D⟩⟩
end Go.Av
