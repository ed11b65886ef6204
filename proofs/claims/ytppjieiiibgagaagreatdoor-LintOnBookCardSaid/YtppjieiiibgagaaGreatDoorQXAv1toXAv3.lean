/-
  ABSTRACT VALUES, 1: what a value of the model stands for, in which memory, and how that lasts while memory grows.
-/
import Derived.WalkKit
set_option linter.all false
namespace Go.Av
open Go Go.RowKit List
def AI {a b:Prop} (h:a) (k:b):a/\b:=⟨h,k⟩
def Da {p:Prop} [Decidable p]:(decide p=true)=p:=decide_eq_true_eq
def Db {p:Prop} [Decidable p]:decide p=false↔¬p:=decide_eq_false_iff_not
def Dc:(!true)=false:=rfl
def Dw:(!false)=true:=rfl
def De (b:Bool):((!b)=true)=(b=false):=Bool.not_eq_true' b
def Df (b:Bool):((!b)=false)=(b=true):=Bool.not_eq_false' b
def Dg {a b:Int}:¬a<b↔b<=a:=Int.not_lt
def Dh {a b:Int}:¬a<=b↔b<a:=Int.not_le
def DZ:(((∀{p:Prop} [Decidable p],(decide p=true)=p)/\(∀{p:Prop} [Decidable p],decide p=false↔¬p))/\((!true)=false/\(!false)=true))/\(((∀b:Bool,((!b)=true)=(b=false))/\∀b:Bool,((!b)=false)=(b=true))/\((∀{a b:Int},¬a<b↔b<=a)/\∀{a b:Int},¬a<=b↔b<a)):=AI (AI (AI @Da @Db) (AI Dc Dw)) (AI (AI De Df) (AI @Dg @Dh))
inductive AV where
 |any
 |bool (b:Bool)
 |int (k:IntKind) (n:Int)
 |str (s:List UInt8)
 |nil
 |sc (v:Value)
 |lst (sz:Nat) (rows:List (List AV))
 |own (b:Option Nat) (e:TypeId) (sz:Nat) (rows:List (List AV))
 |ref (cs:List AV)
 |agg (cs:List AV)
 |tup (cs:List AV)
 deriving Inhabited
inductive AObj where
 |cells (e:TypeId) (cs:List AV)
 |tok (e:TypeId) (k:Nat)
 |map (es:List (Value×AV))
 deriving Inhabited
abbrev Store:=List (Nat×AObj)
def AObj.mut:AObj->Nat->Prop
 | .cells _ _,_=>True
 | .tok _ k,o=>k<=o
 | .map _,_=>True
def Mut (σ:Store) (b o:Nat):Prop:=∃x,(b,x)∈σ/\x.mut o
def Store.keys (σ:Store):List Nat:=σ.map (·.1)
abbrev AV.i (n:Int):AV:=.int .i64 n
abbrev _root_.Go.Value.i (n:Int):Go.Value:=.int .i64 n
abbrev AV.p (b:Nat):AV:=.sc (.pointer (some ⟨b,0,none⟩))
abbrev _root_.Go.Value.p (b:Nat):Go.Value:=.pointer (some ⟨b,0,none⟩)
def keysd (σ:Store):Store.keys σ=σ.map (·.1):=rfl
def ND:=And.intro (And.intro keysd (And.intro (@List.map_cons.{0,0} (Nat×AObj) Nat) (@List.map_nil.{0,0} (Nat×AObj) Nat))) (And.intro (And.intro (@List.nodup_cons.{0} Nat) (And.intro (@List.mem_cons.{0} Nat) (@List.not_mem_nil.{0} Nat))) (And.intro (And.intro or_false (And.intro @not_or not_false_eq_true)) (And.intro true_and (And.intro (@List.nodup_nil.{0} Nat) and_true))))
def Mut.append {σ τ:Store} {b o:Nat}:Mut (σ++τ) b o↔Mut σ b o\/Mut τ b o:=by
 simp only[Mut,mem_append];constructor
 ·rintro⟨x,h|h,m⟩
  ·exact .inl ⟨x,h,m⟩
  ·exact .inr ⟨x,h,m⟩
 ·rintro(⟨x,h,m⟩|⟨x,h,m⟩)
  ·exact⟨x,.inl h,m⟩
  ·exact⟨x,.inr h,m⟩
def Mut.of_key {σ:Store} {b o:Nat} (h:Mut σ b o):b∈σ.keys:=by
 obtain⟨x,D,_⟩:=h;exact mem_map.2 ⟨_,D,rfl⟩
def aC (σ τ:Store):Store.keys (σ++τ)=σ.keys++τ.keys:=by simp[Store.keys]
def kF (σ:Store) (w:World) (a:Addr) (u:Value):Prop:=w.cell? a=some u/\¬Mut σ a.block a.off
mutual
def Rep (σ:Store) (w:World):AV->Value->Prop
 | .any,_=>True
 | .bool b,u=>u= .bool b
 | .int k n,u=>u= .int k n
 | .str s,u=>u= .string ⟨⟨s⟩⟩
 | .nil,u=>u= .slice none 0 0
 | .sc v,u=>u=v
 | .lst sz rows,u=>(u= .slice none 0 0/\rows=[])\/∃a cap,u= .slice (some a) rows.length cap/\rows.length<=cap/\cap<=maxLen/\aA σ w a sz 0 rows
 | .own none _ _ rows,u=>u= .slice none 0 0/\rows=[]
 | .own (some b) e sz rows,u=>∃cap,u= .slice (some ⟨b,0,none⟩) rows.length cap/\rows.length<=cap/\cap<=maxLen/\w.shape? b=some (e,cap*sz)/\aA σ w ⟨b,0,none⟩ sz 0 rows
 | .ref cs,u=>∃a,u= .pointer (some a)/\RepAt σ w a 0 cs
 | .agg cs,u=>∃vs,u= .agg vs/\(∀v∈vs.toList,v.oneCell'=true)/\RepL σ w cs vs.toList
 | .tup cs,u=>∃vs,u= .tuple vs/\RepL σ w cs vs.toList
def RepL (σ:Store) (w:World):List AV->List Value->Prop
 |[],vs=>vs=[]
 |x::xs,vs=>∃u us,vs=u::us/\Rep σ w x u/\RepL σ w xs us
def RepAt (σ:Store) (w:World) (a:Addr):Nat->List AV->Prop
 |_,[]=>True
 |i,x::xs=>(∃u,kF σ w (a.add i) u/\u.oneCell'=true/\Rep σ w x u)/\RepAt σ w a (i+1) xs
def aA (σ:Store) (w:World) (a:Addr) (sz:Nat):Nat->List (List AV)->Prop
 |_,[]=>True
 |i,r::rs=>r.length=sz/\RepAt σ w a (i*sz) r/\aA σ w a sz (i+1) rs
end
structure Ev (σ:Store) (w:World) (σ':Store) (w':World):Prop where
 os:w'.os=w.os
 tape:w'.tape=w.tape
 output:w'.output=w.output
 size:w.heap.size<=w'.heap.size
 block:∀b,b<w.heap.size->b∉σ.keys->w'.heap[b]? =w.heap[b]? /\b∉σ'.keys
 shape:∀b s,w.shape? b=some s->w'.shape? b=some s
 cell:∀a v,w.cell? a=some v->¬Mut σ a.block a.off->w'.cell? a=some v/\¬Mut σ' a.block a.off
def Ev.refl (σ:Store) (w:World):Ev σ w σ w:=
 ⟨rfl,rfl,rfl,Nat.le_refl _,λ_ _ h=>⟨rfl,h⟩,λ_ _ h=>h,λ_ _ h D=>⟨h,D⟩⟩
def Ev.trans {σ D E:Store} {w F I:World} (h:Ev σ w D F) (k:Ev D F E I):Ev σ w E I where
 os:=k.os.trans h.os
 tape:=k.tape.trans h.tape
 output:=k.output.trans h.output
 size:=Nat.le_trans h.size k.size
 block b hb hn:=by
  obtain⟨J,M⟩:=h.block b hb hn;obtain⟨k1,N⟩:=k.block b (Nat.lt_of_lt_of_le hb h.size) M;exact⟨k1.trans J,N⟩
 shape b s hs:=k.shape b s (h.shape b s hs)
 cell a v hv hm:=by
  obtain⟨J,M⟩:=h.cell a v hv hm;exact k.cell a v J M
def fA {w:World} {a:Addr} {v:Value} (h:w.cell? a=some v):a.block<w.heap.size:=by
 unfold World.cell? at h
 cases D:w.heap[a.block]? with
 |none=>simp[D]at h
 |some o=>exact(Array.getElem?_eq_some_iff.1 D).1
def kF.ev {σ σ' ρ:Store} {w w':World} (F:Ev σ w σ' w') {a:Addr} {u:Value} (h:kF (σ++ρ) w a u):kF (σ'++ρ) w' a u:=by
 obtain⟨E,D⟩:=h;rw[Mut.append]at D;obtain⟨k1,I⟩:=F.cell a u E (λm=>D (.inl m));exact⟨k1,by rw[Mut.append];exact λm=>m.elim I (λm=>D (.inr m))⟩
mutual
def Rep.ev {σ σ' ρ:Store} {w w':World} (D:Ev σ w σ' w'):∀(x:AV) (u:Value),Rep (σ++ρ) w x u->Rep (σ'++ρ) w' x u
 | .any,_,_=>by simp only[Rep]
 | .bool b,u,h=>by simp only[Rep]at*;exact h
 | .int k n,u,h=>by simp only[Rep]at*;exact h
 | .str s,u,h=>by simp only[Rep]at*;exact h
 | .nil,u,h=>by simp only[Rep]at*;exact h
 | .sc v,u,h=>by simp only[Rep]at*;exact h
 | .lst sz rows,u,h=>by
  simp only[Rep]at*
  rcases h with h|⟨a,cap,E,F,I,J⟩
  ·exact .inl h
  ·exact .inr ⟨a,cap,E,F,I,aA.ev D a sz 0 rows J⟩
 | .own none _ _ rows,u,h=>by simp only[Rep]at*;exact h
 | .own (some b) e sz rows,u,h=>by
  simp only[Rep]at*;obtain⟨cap,E,F,I,J,M⟩:=h;exact⟨cap,E,F,I,D.shape _ _ J,aA.ev D _ sz 0 rows M⟩
 | .ref cs,u,h=>by
  simp only[Rep]at*;obtain⟨a,E,F⟩:=h;exact⟨a,E,RepAt.ev D a 0 cs F⟩
 | .agg cs,u,h=>by
  simp only[Rep]at*;obtain⟨vs,E,F,I⟩:=h;exact⟨vs,E,F,RepL.ev D cs _ I⟩
 | .tup cs,u,h=>by
  simp only[Rep]at*;obtain⟨vs,E,F⟩:=h;exact⟨vs,E,RepL.ev D cs _ F⟩
def RepL.ev {σ σ' ρ:Store} {w w':World} (D:Ev σ w σ' w'):∀(xs:List AV) (us:List Value),RepL (σ++ρ) w xs us->RepL (σ'++ρ) w' xs us
 |[],us,h=>by simp only[RepL]at*;exact h
 |x::xs,vs,h=>by
  simp only[RepL]at*;obtain⟨u,us,E,F,I⟩:=h;exact⟨u,us,E,Rep.ev D x u F,RepL.ev D xs us I⟩
def RepAt.ev {σ σ' ρ:Store} {w w':World} (D:Ev σ w σ' w') (a:Addr):∀(i:Nat) (xs:List AV),RepAt (σ++ρ) w a i xs->RepAt (σ'++ρ) w' a i xs
 |_,[],_=>by simp only[RepAt]
 |i,x::xs,h=>by
  simp only[RepAt]at*;obtain⟨⟨u,E,N,F⟩,I⟩:=h;exact⟨⟨u,E.ev D,N,Rep.ev D x u F⟩,RepAt.ev D a (i+1) xs I⟩
def aA.ev {σ σ' ρ:Store} {w w':World} (D:Ev σ w σ' w') (a:Addr) (sz:Nat):∀(i:Nat) (rs:List (List AV)),aA (σ++ρ) w a sz i rs->aA (σ'++ρ) w' a sz i rs
 |_,[],_=>by simp only[aA]
 |i,r::rs,h=>by
  simp only[aA]at*;obtain⟨E,F,I⟩:=h;exact⟨E,RepAt.ev D a _ r F,aA.ev D a sz (i+1) rs I⟩
end
/-! ### lists of represented values -/
def RepL.length {σ:Store} {w:World}:∀{xs:List AV} {us:List Value},RepL σ w xs us->us.length=xs.length
 |[],us,h=>by simp only[RepL]at h;simp[h]
 |x::xs,us,h=>by
  simp only[RepL]at h;obtain⟨u,E,rfl,_,D⟩:=h;simp[RepL.length D]
def RepL.get {σ:Store} {w:World}:∀{xs:List AV} {us:List Value},RepL σ w xs us->∀(i:Nat) (h:i<xs.length) (I:i<us.length),Rep σ w xs[i] us[i]
 |[],us,_,i,hi,_=>by simp at hi
 |x::xs,us,h,i,hi,hi'=>by
  simp only[RepL]at h;obtain⟨u,F,rfl,D,E⟩:=h
  cases i with
  |zero=>simpa using D
  |succ i=>simpa using RepL.get E i (by simpa using hi) (by simpa using hi')
def tM {σ:Store} {w:World}:∀{xs:List AV} {us:List Value},us.length=xs.length->(∀(i:Nat) (h:i<xs.length) (E:i<us.length),Rep σ w xs[i] us[i])->RepL σ w xs us
 |[],us,hl,_=>by simp only[RepL];exact eq_nil_of_length_eq_zero (by simpa using hl)
 |x::xs,[],hl,_=>by simp at hl
 |x::xs,u::us,hl,h=>by
  simp only[RepL];exact⟨u,us,rfl,h 0 (by simp) (by simp),tM (by simpa using hl) (λi hi D=>h (i+1) (by simpa using hi) (by simpa using D))⟩
def RepL.append {σ:Store} {w:World}:∀{xs ys:List AV} {us vs:List Value},RepL σ w xs us->RepL σ w ys vs->RepL σ w (xs++ys) (us++vs)
 |[],ys,us,vs,h,k=>by simp only[RepL]at h;simpa[h]using k
 |x::xs,ys,us,vs,h,k=>by
  simp only[RepL]at h;obtain⟨u,F,rfl,D,E⟩:=h;simp only[cons_append,RepL];exact⟨u,_,rfl,D,RepL.append E k⟩
def RepL.drop {σ:Store} {w:World}:∀(n:Nat) {xs:List AV} {us:List Value},RepL σ w xs us->RepL σ w (xs.drop n) (us.drop n)
 |0,xs,us,h=>by simpa using h
 |n+1,[],us,h=>by simp only[RepL]at h;simp[h,RepL]
 |n+1,x::xs,us,h=>by
  simp only[RepL]at h;obtain⟨u,E,rfl,_,D⟩:=h;simpa using RepL.drop n D
def RepL.take {σ:Store} {w:World}:∀(n:Nat) {xs:List AV} {us:List Value},RepL σ w xs us->RepL σ w (xs.take n) (us.take n)
 |0,xs,us,_=>by simp[RepL]
 |n+1,[],us,h=>by simp only[RepL]at h;simp[h,RepL]
 |n+1,x::xs,us,h=>by
  simp only[RepL]at h;obtain⟨u,F,rfl,D,E⟩:=h;simp only[take_succ_cons,RepL];exact⟨u,_,rfl,D,RepL.take n E⟩
def jx (a:Addr) (i j:Nat):(a.add i).add j=a.add (i+j):=by
 unfold Addr.add;by_cases D:i=0
 ·simp[D]
 ·by_cases E:j=0
  ·simp[E]
  ·simp[D,E,Nat.add_assoc]
def add_block (a:Addr) (i:Nat):(a.add i).block=a.block:=by unfold Addr.add;split<;>rfl
def add_lit (b o i:Nat):(⟨b,o,none⟩:Addr).add i=⟨b,o+i,none⟩:=by unfold Addr.add;split<;>simp_all
def RepAt.get {σ:Store} {w:World} {a:Addr}:∀{i:Nat} {xs:List AV},RepAt σ w a i xs->∀(j:Nat) (h:j<xs.length),∃u,kF σ w (a.add (i+j)) u/\u.oneCell'=true/\Rep σ w xs[j] u
 |i,[],_,j,hj=>by simp at hj
 |i,x::xs,h,j,hj=>by
  simp only[RepAt]at h
  cases j with
  |zero=>simpa using h.1
  |succ j=>
   have:=RepAt.get h.2 j (by simpa using hj);simpa[Nat.add_assoc,Nat.add_comm 1 j]using this
def rP {σ:Store} {w:World} {a:Addr}:∀{i:Nat} {xs:List AV},(∀(j:Nat) (h:j<xs.length),∃u,kF σ w (a.add (i+j)) u/\u.oneCell'=true/\Rep σ w xs[j] u)->RepAt σ w a i xs
 |i,[],_=>by simp only[RepAt]
 |i,x::xs,h=>by
  simp only[RepAt]
  exact⟨h 0 (by simp),rP λj D=>by
   have:=h (j+1) (by simpa using D)
   rw[show i+(j+1)=i+1+j by omega]at this
   exact this⟩
def RepAt.shift {σ:Store} {w:World} {a:Addr} {i:Nat} {xs:List AV} (h:RepAt σ w a i xs):RepAt σ w (a.add i) 0 xs:=
 rP λj D=>by rw[jx];simpa using h.get j D
def RepAt.drop {σ:Store} {w:World} {a:Addr} (n:Nat) {xs:List AV} (h:RepAt σ w a 0 xs):RepAt σ w (a.add n) 0 (xs.drop n):=
 rP λj D=>by
  rw[jx];have:=h.get (n+j) (by simp at D;omega);simpa[getElem_drop]using this
def RepAt.take {σ:Store} {w:World} {a:Addr} (n:Nat) {i:Nat} {xs:List AV} (h:RepAt σ w a i xs):RepAt σ w a i (xs.take n):=
 rP λj D=>by
  have:=h.get j (by simp at D;omega);simpa[getElem_take]using this
def aA.get {σ:Store} {w:World} {a:Addr} {sz:Nat}:∀{i:Nat} {rows:List (List AV)},aA σ w a sz i rows->∀(j:Nat) (h:j<rows.length),rows[j].length=sz/\RepAt σ w a ((i+j)*sz) rows[j]
 |i,[],_,j,hj=>by simp at hj
 |i,r::rs,h,j,hj=>by
  simp only[aA]at h
  cases j with
  |zero=>simpa using⟨h.1,h.2.1⟩
  |succ j=>
   have:=aA.get h.2.2 j (by simpa using hj);simpa[Nat.add_assoc,Nat.add_comm 1 j]using this
def sD {σ:Store} {w:World} {a:Addr} {sz:Nat}:∀{i:Nat} {rows:List (List AV)},(∀(j:Nat) (h:j<rows.length),rows[j].length=sz/\RepAt σ w a ((i+j)*sz) rows[j])->aA σ w a sz i rows
 |i,[],_=>by simp only[aA]
 |i,r::rs,h=>by
  simp only[aA];have D:=h 0 (by simp)
  exact⟨D.1,D.2,sD λj E=>by
   have:=h (j+1) (by simpa using E)
   rw[show i+(j+1)=i+1+j by omega]at this
   exact this⟩
def aA.ref {σ:Store} {w:World} {a:Addr} {sz:Nat} {rows:List (List AV)} (h:aA σ w a sz 0 rows) (j:Nat) (D:j<rows.length):RepAt σ w (a.add (j*sz)) 0 rows[j]:=by
 have:=(h.get j D).2;rw[Nat.zero_add]at this;exact this.shift
def aA.drop {σ:Store} {w:World} {a:Addr} {sz:Nat} (n:Nat) {rows:List (List AV)} (h:aA σ w a sz 0 rows):aA σ w (a.add (n*sz)) sz 0 (rows.drop n):=
 sD λj E=>by
  have:=h.get (n+j) (by simp at E;omega);simp only[getElem_drop];refine⟨this.1,?_⟩;refine rP λk F=>?_;have D:=this.2.get k F;rw[jx];rw[show n*sz+((0+j)*sz+k)=(0+(n+j))*sz+k by simp[Nat.add_mul];omega];exact D
def aA.take {σ:Store} {w:World} {a:Addr} {sz:Nat} (n:Nat) {i:Nat} {rows:List (List AV)} (h:aA σ w a sz i rows):aA σ w a sz i (rows.take n):=
 sD λj D=>by
  have:=h.get j (by simp at D;omega);simpa[getElem_take]using this
/-! ### a smaller store -/
def Sub (σ' σ:Store):Prop:=∀p∈σ',p∈σ
def Mut.sub {σ' σ:Store} (h:Sub σ' σ) {b o:Nat} (m:Mut σ' b o):Mut σ b o:=by
 obtain⟨x,E,D⟩:=m;exact⟨x,h _ E,D⟩
def cV {σ' σ:Store} (h:Sub σ' σ) {b:Nat} (D:b∈σ'.keys):b∈σ.keys:=by
 obtain⟨p,E,rfl⟩:=mem_map.1 D;exact mem_map.2 ⟨p,h _ E,rfl⟩
def rN {σ' σ:Store} (h:Sub σ' σ) (w:World):Ev σ w σ' w:=
 ⟨rfl,rfl,rfl,Nat.le_refl _,λ_ _ F=>⟨rfl,λD=>F (cV h D)⟩,λ_ _ h=>h,λ_ _ I E=>⟨I,λm=>E (m.sub h)⟩⟩
def Rep.sub {σ' σ:Store} {w:World} (h:Sub σ' σ) {x:AV} {u:Value} (D:Rep σ w x u):Rep σ' w x u:=by
 have:=Rep.ev (ρ:=[]) (rN h w) x u (by simpa using D);simpa using this
def RepL.sub {σ' σ:Store} {w:World} (h:Sub σ' σ) {x:List AV} {u:List Value} (D:RepL σ w x u):RepL σ' w x u:=by
 have:=RepL.ev (ρ:=[]) (rN h w) x u (by simpa using D);simpa using this
/-! ### the store holds in memory -/
def ObjSat (σ:Store) (w:World) (b:Nat):AObj->Prop
 | .cells e cs=>∃vs,w.heap[b]? =some (.cells vs e (0,0))/\(∀v∈vs.toList,v.oneCell'=true)/\RepL σ w cs vs.toList
 | .tok e k=>∃vs,w.heap[b]? =some (.cells vs e (0,0))/\k<=vs.size/\∀v∈vs.toList,v.oneCell'=true
 | .map es=>∃ents D,w.heap[b]? =some (.map ents D)/\ents.toList.map (·.key)=es.map (·.1)/\RepL σ w (es.map (·.2)) (ents.toList.map (·.val))
structure Glob where
 tab:Nat->Option (List AV)
 holds:Store->World->Prop
 ev:∀{σ σ' ρ:Store} {w w':World},Ev σ w σ' w'->holds (σ++ρ) w->holds (σ'++ρ) w'
 tabs:∀{σ:Store} {w:World} {g:Nat} {cs:List AV},holds σ w->tab g=some cs->RepAt σ w ⟨g,0,none⟩ 0 cs
structure Sat (G:Glob) (σ:Store) (w:World):Prop where
 nodup:σ.keys.Nodup
 obj:∀b x,(b,x)∈σ->ObjSat σ w b x
 glob:G.holds σ w
def ObjSat.lt {σ:Store} {w:World} {b:Nat} {x:AObj} (h:ObjSat σ w b x):b<w.heap.size:=by
 cases x with
 |cells e cs=>obtain⟨vs,h,_⟩:=h;exact(Array.getElem?_eq_some_iff.1 h).1
 |tok e k=>obtain⟨vs,h,_⟩:=h;exact(Array.getElem?_eq_some_iff.1 h).1
 |map es=>obtain⟨ents,c,h,_⟩:=h;exact(Array.getElem?_eq_some_iff.1 h).1
def Sat.key_lt {G:Glob} {σ:Store} {w:World} (h:Sat G σ w) {b:Nat} (D:b∈σ.keys):b<w.heap.size:=by
 obtain⟨p,E,rfl⟩:=mem_map.1 D;exact(h.obj p.1 p.2 E).lt
def ObjSat.ev {σ σ' ρ:Store} {w w':World} (I:Ev σ w σ' w') {b:Nat} {x:AObj} (N:b∉σ.keys) (h:ObjSat (σ++ρ) w b x):ObjSat (σ'++ρ) w' b x:=by
 have M:=h.lt;have J:=(I.block b M N).1
 cases x with
 |cells e cs=>
  obtain⟨vs,D,E,F⟩:=h;exact⟨vs,J.trans D,E,RepL.ev I _ _ F⟩
 |tok e k=>
  obtain⟨vs,D,E⟩:=h;exact⟨vs,J.trans D,E⟩
 |map es=>
  obtain⟨ents,c,D,E,F⟩:=h;exact⟨ents,c,J.trans D,E,RepL.ev I _ _ F⟩
def Sat.step {G:Glob} {σ σ' ρ:Store} {w w':World} (h:Sat G (σ++ρ) w) (I:Ev σ w σ' w') (O:σ'.keys.Nodup)
  (N:∀b,b∈σ'.keys->b∈σ.keys\/w.heap.size<=b) (T:∀b x,(b,x)∈σ'->ObjSat (σ'++ρ) w' b x):Sat G (σ'++ρ) w' where
 nodup:=by
  have D:=h.nodup;rw[aC]at D ⊢;obtain⟨_,J,M⟩:=nodup_append.1 D;refine nodup_append.2 ⟨O,J,λb E c F e=>?_⟩;subst e
  rcases N b E with h4|h4
  ·exact M b h4 b F rfl
  ·have:=h.key_lt (b:=b) (by rw[aC];exact mem_append.2 (.inr F));omega
 obj b x hx:=by
  rcases mem_append.1 hx with hx|hx
  ·exact T b x hx
  ·refine ObjSat.ev I ?_ (h.obj b x (mem_append.2 (.inr hx)));intro E;have D:=h.nodup;rw[aC]at D;exact(nodup_append.1 D).2.2 b E b (mem_map.2 ⟨_,hx,rfl⟩) rfl
 glob:=G.ev I h.glob
def ObjSat.sub {σ σ':Store} {w:World} (I:Sub σ' σ) {b:Nat} {x:AObj} (h:ObjSat σ w b x):ObjSat σ' w b x:=by
 cases x with
 |cells e cs=>
  obtain⟨vs,D,E,F⟩:=h;exact⟨vs,D,E,RepL.sub I F⟩
 |tok e k=>exact h
 |map es=>
  obtain⟨ents,c,D,E,F⟩:=h;exact⟨ents,c,D,E,RepL.sub I F⟩
def Sat.sub {G:Glob} {σ σ':Store} {w:World} (h:Sat G σ w) (D:Sub σ' σ) (E:σ'.keys.Nodup):Sat G σ' w where
 nodup:=E
 obj b x hx:=ObjSat.sub D (h.obj b x (D _ hx))
 glob:=by
  have:=G.ev (ρ:=[]) (rN D w) (by simpa using h.glob);simpa using this
/-! ### new blocks -/
def Ev.alloc {σ:Store} {w:World} (o:Obj) (x:AObj):Ev σ w ((w.heap.size,x)::σ) (w.alloc o) where
 os:=rfl
 tape:=rfl
 output:=rfl
 size:=by simp
 block b D hn:=⟨Below.heap_alloc w o b D,by
  simp only[Store.keys,map_cons,mem_cons,not_or]
  exact⟨by omega,hn⟩⟩
 shape b s hs:=by
  have D:b<w.heap.size:=by
   unfold World.shape? at hs
   cases h:w.heap[b]? with
   |none=>simp[h]at hs
   |some o=>exact(Array.getElem?_eq_some_iff.1 h).1
  unfold World.shape? at*;rw[Below.heap_alloc w o b D];exact hs
 cell a v hv hm:=by
  have D:=fA hv;refine⟨by rw[World.cell?_alloc_lt w o a D];exact hv,?_⟩;rintro⟨y,E,F⟩
  rcases mem_cons.1 E with e|E
  ·have:a.block=w.heap.size:=congrArg Prod.fst e;omega
  ·exact hm ⟨y,E,F⟩
def tA {σ:Store} {w:World} (o:Obj):Ev σ w σ (w.alloc o) where
 os:=rfl
 tape:=rfl
 output:=rfl
 size:=by simp
 block b D hn:=⟨Below.heap_alloc w o b D,hn⟩
 shape b s hs:=by
  have D:b<w.heap.size:=by
   unfold World.shape? at hs
   cases h:w.heap[b]? with
   |none=>simp[h]at hs
   |some o=>exact(Array.getElem?_eq_some_iff.1 h).1
  unfold World.shape? at*;rw[Below.heap_alloc w o b D];exact hs
 cell a v hv hm:=⟨by rw[World.cell?_alloc_lt w o a (fA hv)];exact hv,hm⟩
def Ev.drew {σ:Store} {w:World}:Ev σ w σ w.drew:=
 ⟨rfl,rfl,rfl,Nat.le_refl _,λ_ _ h=>⟨rfl,h⟩,λ_ _ h=>h,λ_ _ h D=>⟨h,D⟩⟩
abbrev Env:=List (Nat×AV)
def Env.get:Env->Nat->AV
 |[],_=>.any
 |(k,x)::e,j=>if k=j then x else Env.get e j
def Env.set:Env->Nat->AV->Env
 |[],j,v=>[(j,v)]
 |(k,x)::e,j,v=>if k=j then (k,v)::e else (k,x)::Env.set e j v
def Env.put (env:Env):Option Nat->AV->Env
 |none,_=>env
 |some d,v=>env.set d v
def Env.keep (ks:List Nat) (env:Env):Env:=env.filter λp=>ks.contains p.1
def Store.get:Store->Nat->Option AObj
 |[],_=>none
 |(k,x)::s,b=>if k=b then some x else Store.get s b
def Store.set:Store->Nat->AObj->Store
 |[],_,_=>[]
 |(k,x)::s,b,y=>if k=b then (k,y)::s else (k,x)::Store.set s b y
def Store.erase:Store->Option Nat->Store
 |s,none=>s
 |s,some b=>s.filter λp=>p.1≠b
def tokS (g:Option Nat) (e:TypeId) (k:Nat):Store:=
 match g with
 |none=>[]
 |some b=>[(b,.tok e k)]
inductive SOpd where
 |t (i:Nat)
 |c (v:AV)
 |f (i:FuncId)
 |g (i:Nat)
 deriving Inhabited
inductive SOp where
 |mov (x:SOpd)
 |pick (c a b:SOpd)
 |nilCheck (x:SOpd)
 |load (agg:Bool) (n:Nat) (x:SOpd)
 |build (zero:List AV) (parts:List (Nat×Nat×SOpd))
 |fieldA (off:Nat) (x:SOpd)
 |indexA (sz:Nat) (x i:SOpd)
 |indexP (len sz:Nat) (x i:SOpd)
 |index (x i:SOpd)
 |slice (sz:Nat) (x:SOpd) (lo hi:Option SOpd)
 |sliceS (x:SOpd) (lo hi:Option SOpd)
 |field (agg:Bool) (off n:Nat) (x:SOpd)
 |extract (i:Nat) (x:SOpd)
 |bin (op:BinOp) (x y:SOpd)
 |eqb (neg:Bool) (x y:SOpd)
 |eqs (neg:Bool) (ks:List Nat) (x y:SOpd)
 |eqnil (kind:Nat) (neg:Bool) (x:SOpd)
 |not (x:SOpd)
 |conv (k:IntKind) (x:SOpd)
 |str (x:SOpd)
 |len (x:SOpd)
 |lenS (x:SOpd)
 |mkfun (fn:Fn) (first cap:List SOpd)
 |alloc (e:TypeId) (zero:List AV)
 |box (e:TypeId) (n:Nat) (x:SOpd)
 |boxR (n:Nat) (x:SOpd)
 |loadF (agg:Bool) (n:Nat) (x:SOpd)
 |buildS (e:TypeId) (sz len:Nat) (zero:List AV) (parts:List (Nat×SOpd))
 |store (n:Nat) (x y:SOpd)
 |append (e:TypeId) (sz bytes:Nat) (x y:SOpd)
 |call (f:SOpd) (args:List SOpd)
 |invoke (x:SOpd) (name:String) (args:List SOpd)
 |mkI (t:TypeId) (x:SOpd)
 |raw (op:Op)
 |bad
 deriving Inhabited
def SOp.slot:SOp->Bool
 | .mov _| .pick _ _ _| .nilCheck _| .build _ _| .fieldA _ _| .indexA _ _ _| .indexP _ _ _ _| .index _ _| .slice _ _ _ _| .sliceS _ _ _| .field _ _ _ _| .extract _ _| .bin _ _ _| .eqb _ _ _
 | .eqs _ _ _ _| .eqnil _ _ _| .not _| .conv _ _| .str _| .len _| .lenS _| .mkfun _ _ _| .mkI _ _=>true
 |_=>false
structure SOper where
 dst:Option Nat
 guard:Option (Nat×Bool)
 op:SOp
 deriving Inhabited
inductive DT where
 |done
 |step (o:SOper) (t:DT)
 |both (a b:DT)
 deriving Inhabited
inductive SCode where
 |skip
 |region (ops:List SOper) (keep:List Nat)
 |ghost (ops:List SOper) (keep:List Nat)
 |draw (ops:List SOper) (keep:List Nat)
 |drawL (ops:List SOper) (keep:List Nat)
 |drawT (t:DT) (keep:List Nat)
 |seq (a b:SCode)
 |cond (c:SOpd) (a b:SCode)
 |block (id:Nat) (a:SCode)
 |loop (a:SCode)
 |exit (id:Nat)
 |ret
 |bad
 deriving Inhabited
/-! ### what a constant stands for -/
def AV.ofOne:Value->AV
 | .bool b=>.bool b
 | .int k n=>.int k n
 | .string s=>.str s.data.toList
 | .slice none 0 0=>.nil
 |v=>.sc v
def AV.ofValue:Value->AV
 | .agg cs=>if cs.toList.all (·.oneCell')then .agg (cs.toList.map AV.ofOne)else .sc (.agg cs)
 |v=>AV.ofOne v
def aG:AV:=.tup []
section
variable (G:Glob)
def SOpd.eval (env:Env):SOpd->AV
 | .t i=>env.get i
 | .c v=>v
 | .f i=>.sc (.func (.func i) #[] #[])
 | .g i=>match G.tab i with
  |some cs=>.ref cs
  |none=>.sc (.pointer (some ⟨i,0,none⟩))
def AV.cells?:AV->Option (List AV)
 | .agg cs=>some cs
 | .any| .tup _=>none
 | .sc v=>if v.oneCell' then some [.sc v]else none
 |x=>some [x]
def aJ:List AV->Nat->List AV->List AV
 |l,0,c=>c++l.drop c.length
 |[],_+1,_=>[]
 |x::l,o+1,c=>x::aJ l o c
def co (x:AV) (K:List AV->Prop):Prop:=
 match AV.cells? x with
 |some c=>K c
 |none=>False
def g7 (env:Env):List AV->List (Nat×Nat×SOpd)->(List AV->Prop)->Prop
 |cells,[],K=>K cells
 |cells,(off,n,x)::rest,K=>co (x.eval G env) λc=>c.length=n/\off+n<=cells.length/\g7 env (aJ cells off c) rest K
def fj (op:BinOp) (x y:AV) (K:AV->Prop):Prop:=
 match x,y with
 | .int k a,.int k' b=>k=k'/\
  match op with
  | .add=>K (.int k (k.wrap (a+b)))
  | .sub=>K (.int k (k.wrap (a-b)))
  | .mul=>K (.int k (k.wrap (a*b)))
  | .quo=>b≠0/\K (.int k (k.wrap (a.tdiv b)))
  | .rem=>b≠0/\K (.int k (a.tmod b))
  | .eql=>K (.bool (decide (a=b)))
  | .neq=>K (.bool (decide (a≠b)))
  | .lss=>K (.bool (decide (a<b)))
  | .leq=>K (.bool (decide (a<=b)))
  | .gtr=>K (.bool (decide (b<a)))
  | .geq=>K (.bool (decide (b<=a)))
  |_=>False
 | .str a,.str b=>
  match op with
  | .add=>a.length+b.length<9223372036854775808/\K (.str (a++b))
  | .eql=>K (.bool (decide (a=b)))
  | .neq=>K (.bool (decide (a≠b)))
  | .lss=>K (.bool (Op.bytesLess a b))
  | .leq=>K (.bool (Op.bytesLess a b||decide (a=b)))
  | .gtr=>K (.bool (!(Op.bytesLess a b||decide (a=b))))
  | .geq=>K (.bool (!Op.bytesLess a b))
  |_=>False
 |_,_=>False
def eqAV:List Nat->List AV->List AV->Option Bool
 |[],[],[]=>some true
 |0::ks,.bool a::xs,.bool b::ys=>(eqAV ks xs ys).map ((a==b)&& ·)
 |1::ks,.int k a::xs,.int k' b::ys=>if k=k' then (eqAV ks xs ys).map (decide (a=b)&& ·)else none
 |2::ks,.str a::xs,.str b::ys=>(eqAV ks xs ys).map (decide (a=b)&& ·)
 |_,_,_=>none
def j9 (x:AV) (K:Nat->List (List AV)->Prop):Prop:=
 match x with
 | .lst sz rows=>K sz rows
 | .own _ _ sz rows=>K sz rows
 |_=>False
def fi (env:Env) (d:Int) (x:Option SOpd) (K:Int->Prop):Prop:=
 match x with
 |none=>K d
 |some x=>match x.eval G env with
  | .int _ n=>K n
  |_=>False
def kR (env:Env) (sz:Nat) (x:AV) (lo hi:Option SOpd) (K:AV->Prop):Prop:=
 match x with
 | .nil=>fi G env 0 lo λl=>fi G env 0 hi λh=>l=0/\h=0/\K .nil
 | .sc (.slice (some ⟨b,o,none⟩) len cap)=>fi G env 0 lo λl=>fi G env len hi λh=>
   0<=l/\l<=h/\h<=len/\len<=cap/\l<cap/\K (.sc (.slice (some ⟨b,o+l.toNat*sz,none⟩) (h.toNat-l.toNat) (cap-l.toNat)))
 |x=>j9 x λD rows=>fi G env 0 lo λl=>fi G env rows.length hi λh=>
   sz=D/\0<=l/\l<=h/\h<=rows.length/\K (.lst sz ((rows.take h.toNat).drop l.toNat))
def fR (agg:Bool) (n:Nat) (cs:List AV) (K:AV->Prop):Prop:=
 n<=cs.length/\K (if agg then .agg (cs.take n)else cs.headD .any)
def j6 (c x y:AV) (K:AV->Prop):Prop:=
 match c with
 | .bool t=>(t=true->K x)/\(t=false->K y)
 |_=>False
def nilAV (x:AV) (K:AV->Prop):Prop:=
 match x with
 | .ref cs=>K (.ref cs)
 | .sc (.pointer (some a))=>K (.sc (.pointer (some a)))
 | .sc (.func (.func k) fs cs)=>K (.sc (.func (.func k) fs cs))
 |_=>False
def iD (x:Option AObj) (K:TypeId->List AV->Prop):Prop:=
 match x with
 |some (.cells e cs)=>K e cs
 |_=>False
def nk (σ:Store) (agg:Bool) (n:Nat) (x:AV) (K:AV->Prop):Prop:=
 match x with
 | .ref cs=>fR agg n cs K
 | .sc (.pointer (some ⟨b,o,none⟩))=>iD (σ.get b) λ_ cs=>fR agg n (cs.drop o) K
 |_=>False
def refX (x:AV) (K:List AV->Prop):Prop:=
 match x with
 | .ref cs=>K cs
 |_=>False
def dG (off:Nat) (x:AV) (K:AV->Prop):Prop:=
 match x with
 | .ref cs=>K (.ref (cs.drop off))
 | .sc (.pointer (some ⟨b,o,none⟩))=>K (.sc (.pointer (some ⟨b,o+off,none⟩)))
 |_=>False
def intX (x:AV) (K:Int->Prop):Prop:=
 match x with
 | .int _ n=>K n
 |_=>False
def oD (sz:Nat) (x i:AV) (K:AV->Prop):Prop:=
 match x with
 | .sc (.slice (some ⟨b,o,none⟩) len _)=>intX i λn=>0<=n/\n<len/\K (.sc (.pointer (some ⟨b,o+n.toNat*sz,none⟩)))
 |x=>j9 x λD rows=>sz=D/\intX i λn=>0<=n/\n<rows.length/\K (.ref (rows.getD n.toNat []))
def indexPX (len sz:Nat) (x i:AV) (K:AV->Prop):Prop:=
 intX i λn=>0<=n/\n<len/\dG (n.toNat*sz) x K
def strX (x:AV) (K:List UInt8->Prop):Prop:=
 match x with
 | .str s=>K s
 |_=>False
def charX (x i:AV) (K:AV->Prop):Prop:=
 strX x λs=>intX i λn=>0<=n/\n<s.length/\K (.int .u8 (s.getD n.toNat 0).toNat)
def aggX (x:AV) (K:List AV->Prop):Prop:=
 match x with
 | .agg cs=>K cs
 |_=>False
def tupX (i:Nat) (x:AV) (K:AV->Prop):Prop:=
 match x with
 | .tup cs=>i<cs.length/\K (cs.getD i .any)
 |_=>False
def i6 (x:AV) (K:Bool->Prop):Prop:=
 match x with
 | .bool b=>K b
 |_=>False
def eqsX (neg:Bool) (ks:List Nat) (xs ys:List AV) (K:AV->Prop):Prop:=
 match eqAV ks xs ys with
 |some r=>K (.bool (if neg then !r else r))
 |none=>False
def jt (kind:Nat) (neg:Bool) (x:AV) (K:AV->Prop):Prop:=
 match kind,x with
 |0,.nil=>K (.bool (!neg))
 |0,.lst _ rows=>∀b,(rows≠[]->b=neg)->K (.bool b)
 |0,.own g _ _ _=>K (.bool (if neg then g.isSome else g.isNone))
 |1,.sc (.map r)=>K (.bool (if neg then r.isSome else r.isNone))
 |2,.sc .nilFunc=>K (.bool (!neg))
 |2,.sc (.func _ _ _)=>K (.bool neg)
 |3,.sc (.pointer r)=>K (.bool (if neg then r.isSome else r.isNone))
 |3,.ref _=>K (.bool neg)
 |_,_=>False
def convX (k:IntKind) (x:AV) (K:AV->Prop):Prop:=
 match x with
 | .int _ n=>K (.int k (k.wrap n))
 |_=>False
def lenX (x:AV) (K:AV->Prop):Prop:=
 match x with
 | .lst _ rows=>K (.int .i64 rows.length)
 | .own _ _ _ rows=>K (.int .i64 rows.length)
 | .nil=>K (.int .i64 0)
 | .sc (.slice _ n _)=>K (.int .i64 n)
 |_=>False
def scX (x:AV) (K:Value->Prop):Prop:=
 match x with
 | .sc v=>K v
 |_=>False
def scsX (env:Env):List SOpd->(List Value->Prop)->Prop
 |[],K=>K []
 |x::xs,K=>scX (x.eval G env) λv=>scsX env xs λvs=>K (v::vs)
def aq (D:SOp) (env:Env) (σ:Store) (K:AV->Prop):Prop:=
 match D with
 | .mov x=>K (x.eval G env)
 | .pick c a b=>j6 (c.eval G env) (a.eval G env) (b.eval G env) K
 | .nilCheck x=>nilAV (x.eval G env) K
 | .load agg n x=>nk σ agg n (x.eval G env) K
 | .loadF agg n x=>refX (x.eval G env) λcs=>fR agg n cs K
 | .build zero parts=>g7 G env zero parts λcs=>K (.agg cs)
 | .fieldA off x=>dG off (x.eval G env) K
 | .indexA sz x i=>oD sz (x.eval G env) (i.eval G env) K
 | .indexP len sz x i=>indexPX len sz (x.eval G env) (i.eval G env) K
 | .index x i=>charX (x.eval G env) (i.eval G env) K
 | .slice sz x lo hi=>kR G env sz (x.eval G env) lo hi K
 | .sliceS x lo hi=>strX (x.eval G env) λs=>fi G env 0 lo λl=>fi G env s.length hi λh=>0<=l/\l<=h/\h<=s.length/\K (.str ((s.take h.toNat).drop l.toNat))
 | .field agg off n x=>aggX (x.eval G env) λcs=>fR agg n (cs.drop off) K
 | .extract i x=>tupX i (x.eval G env) K
 | .bin op x y=>fj op (x.eval G env) (y.eval G env) K
 | .eqb neg x y=>i6 (x.eval G env) λa=>i6 (y.eval G env) λb=>K (.bool (if neg then a != b else a==b))
 | .eqs neg ks x y=>aggX (x.eval G env) λxs=>aggX (y.eval G env) λys=>eqsX neg ks xs ys K
 | .eqnil kind neg x=>jt kind neg (x.eval G env) K
 | .not x=>i6 (x.eval G env) λb=>K (.bool (!b))
 | .mkI t x=>scX (x.eval G env) λv=>K (.sc (.iface t v))
 | .conv k x=>convX k (x.eval G env) K
 | .str x=>strX (x.eval G env) λs=>K (.str s)
 | .len x=>lenX (x.eval G env) K
 | .lenS x=>strX (x.eval G env) λs=>K (.int .i64 s.length)
 | .mkfun fn first cap=>scsX G env first λvs=>scsX G env cap λus=>K (.sc (.func fn vs.toArray us.toArray))
 |_=>False
variable (P:Program)
def aj (k:FuncId) (args:List AV) (σ:Store) (R:AV->Store->Prop):Prop:=
 (∃fn,P.funcs[k]? =some fn/\(fn.name== "runtime.NumGoroutine")=false/\fn.body.isNone=false)/\
 ∀(ρ:Store) (w:World) (vs:Array Value),Sat G (σ++ρ) w->RepL (σ++ρ) w args vs.toList->
  Calls P k vs w λe w'=>∃v r σ',e= .returned v/\R r σ'/\Sat G (σ'++ρ) w'/\Ev σ w σ' w'/\Rep (σ'++ρ) w' r v
def du (f:Value) (args:List AV) (σ:Store) (R:AV->Store->Prop):Prop:=
 ∃k first cap,f= .func (.func k) first cap/\aj G P k (first.toList.map AV.ofValue++args++cap.toList.map AV.ofValue) σ R
def aH (x y:AV):Prop:=
 x=y\/match x,y with
 |_,.any=>True
 | .own _ _ sz r,.lst sz' r'=>sz=sz'/\r=r'
 | .nil,.lst _ r=>r=[]
 | .nil,.own g _ _ r=>g=none/\r=[]
 | .own g _ _ _,.nil=>g=none
 | .nil,.sc v=>v= .slice none 0 0
 |_,_=>False
def aW:List AV->List AV->Prop
 |[],[]=>True
 |x::xs,y::ys=>aH x y/\aW xs ys
 |_,_=>False
def AVle (x y:AV):Prop:=
 aH x y\/match x,y with
 | .agg xs,.agg ys=>aW xs ys
 | .tup xs,.tup ys=>aW xs ys
 |_,_=>False
def aE:List AV->List AV->Prop
 |[],[]=>True
 |x::xs,y::ys=>AVle x y/\aE xs ys
 |_,_=>False
def XSpec (f:Value) (args:List AV) (σ:Store) (R:AV->Store->Prop):Prop:=
 ∃k first cap,f= .func (.func k) first cap/\∀(ρ:Store) (w:World) (vs:Array Value),Sat G (σ++ρ) w->RepL (σ++ρ) w (first.toList.map AV.ofValue++args++cap.toList.map AV.ofValue) vs.toList->
  ∃v r σ' w',(callFunc k vs).run P w= .ok (.value v) w'/\R r σ'/\Sat G (σ'++ρ) w'/\Ev σ w σ' w'/\Rep (σ'++ρ) w' r v
def mq (f:Value) (args:List AV) (σ:Store) (K:AV->Store->Prop):Prop:=
 ∃R E σr D,(du G P f D E R\/XSpec G P f D E R)/\aE args D/\Sub (E++σr) σ/\(σ.keys.Nodup->(E++σr:Store).keys.Nodup)/\∀r σ',R r σ'->(σ'++σr:Store).keys.Nodup->K r (σ'++σr)
def Meth (v:Value) (name:String) (k:FuncId) (D:Value):Prop:=
 ∀(w:World) (vs:Array Value),(callMethod v name vs).run P w=(callFunc k (#[D]++vs)).run P w
def AInv (v:Value) (name:String) (args:List AV) (σ:Store) (K:AV->Store->Prop):Prop:=
 ∃k D,Meth P v name k D/\mq G P (.func (.func k) #[D] #[]) args σ K
def AV.rigid:AV->Option Value
 | .bool b=>some (.bool b)
 | .int k n=>some (.int k n)
 | .str s=>some (.string ⟨⟨s⟩⟩)
 | .nil=>some (.slice none 0 0)
 | .sc v=>some v
 |_=>none
def AQCall (f:Value) (args:List AV) (K:AV->Prop):Prop:=
 ∃r D,r.rigid.isSome=true/\du G P f D [] (λx σ=>x=r/\σ=[])/\aE args D/\K r
def Fits (n bytes:Nat):Prop:=n*bytes<=140737488355328\/bytes<=1048576/\n*bytes<=211106232532992
def appX0 (e:TypeId) (sz bytes:Nat) (σ:Store) (g:Option Nat) (rows ys:List (List AV)) (K:AV->Store->Prop):Prop:=
 (∀b,g=some b->σ.get b=some (.tok e (rows.length*sz)))/\Fits (rows.length+ys.length) bytes/\
 ∀D,(D=none->rows++ys=[])->(∀b,D=some b->b∉(σ.erase g).keys)->K (.own D e sz (rows++ys)) (tokS D e ((rows++ys).length*sz)++σ.erase g)
def appX (e:TypeId) (sz bytes:Nat) (σ:Store) (g:Option Nat) (rows ys:List (List AV)) (K:AV->Store->Prop):Prop:=
 appX0 e sz bytes σ g rows ys λr σ'=>∃D:Store,(Sub D σ'/\(σ'.keys.Nodup->D.keys.Nodup))/\K r D
def ownX (e:TypeId) (sz:Nat) (x:AV) (K:Option Nat->List (List AV)->Prop):Prop:=
 match x with
 | .nil=>K none []
 | .own g e' sz' rows=>e'=e/\sz'=sz/\K g rows
 |_=>False
def srcX (sz:Nat) (x:AV) (K:List (List AV)->Prop):Prop:=
 match x with
 | .nil=>K []
 | .lst sz' rows=>sz'=sz/\K rows
 | .own _ _ sz' rows=>sz'=sz/\K rows
 |_=>False
def ptrX (x:AV) (K:Nat->Nat->Prop):Prop:=
 match x with
 | .sc (.pointer (some ⟨b,o,none⟩))=>K b o
 |_=>False
def RawOp (op:Op) (env:Env) (σ:Store) (K:AV->Store->Prop):Prop:=
 ∀(ρ:Store) (w:World) (a:Act) (o:Oper),o.op=op->Sat G (σ++ρ) w->(∀j,Rep (σ++ρ) w (env.get j) (a.tmps.getD j undef))->
  ∃v w' r σ',((execOp a.eval o).run P w= .ok (.value v) w'\/(execOp a.eval o).run P w= .ok .skip w'/\v=undef)/\K r σ'/\Sat G (σ'++ρ) w'/\Ev σ w σ' w'/\Rep (σ'++ρ) w' r v
def newX (σ:Store) (K:Nat->Prop):Prop:=∀b,b∉σ.keys->K b
def aop (so:SOp) (env:Env) (σ:Store) (K:AV->Store->Prop):Prop:=
 match so with
 | .alloc e zero=>newX σ λb=>K (.sc (.pointer (some ⟨b,0,none⟩))) ((b,.cells e zero)::σ)
 | .box e n x=>co (x.eval G env) λc=>c.length=n/\newX σ λb=>K (.sc (.pointer (some ⟨b,0,none⟩))) ((b,.cells e c)::σ)
 | .boxR n x=>co (x.eval G env) λc=>c.length=n/\K (.ref c) σ
 | .buildS e sz len zero parts=>g7 G env zero (parts.map λp=>(p.1*sz,sz,p.2)) λcs=>
   newX σ λb=>∃rows:List (List AV),rows.length=len/\(∀r∈rows,r.length=sz)/\rows.flatten=cs/\K (.own (some b) e sz rows) ((b,.tok e (len*sz))::σ)
 | .store n x y=>ptrX (x.eval G env) λb o=>iD (σ.get b) λe cs=>co (y.eval G env) λc=>
   c.length=n/\o+n<=cs.length/\K aG (σ.set b (.cells e (aJ cs o c)))
 | .append e sz bytes x y=>ownX e sz (x.eval G env) λg rows=>srcX sz (y.eval G env) λys=>appX e sz bytes σ g rows ys K
 | .call f args=>scX (f.eval G env) λv=>mq G P v (args.map (·.eval G env)) σ K
 | .invoke x name args=>scX (x.eval G env) λv=>AInv G P v name (args.map (·.eval G env)) σ K
 | .raw op=>RawOp G P op env σ K
 |so=>aq G so env σ λr=>K r σ
def gd (x:AV) (D:Bool) (A B C:Prop):Prop:=
 match x with
 | .bool b=>(b=D->A)/\(b= !D->B)
 | .tup []=>C
 |_=>False
def srun:List SOper->Env->Store->(Env->Store->Prop)->Prop
 |[],env,σ,K=>K env σ
 |o::rest,env,σ,K=>match o.guard with
  |none=>aop G P o.op env σ λr σ'=>srun rest (env.put o.dst r) σ' K
  |some (j,want)=>gd (env.get j) want (aop G P o.op (env.set j (.bool want)) σ λr σ'=>srun rest ((env.set j (.bool want)).put o.dst r) σ' K)
    (srun rest ((env.set j (.bool (!want))).put o.dst aG) σ K) (srun rest (env.put o.dst aG) σ K)
def trun:DT->Env->Store->(Env->Store->Prop)->Prop
 | .done,env,σ,K=>K env σ
 | .step o t,env,σ,K=>match o.guard with
  |none=>aop G P o.op env σ λr σ'=>trun t (env.put o.dst r) σ' K
  |some (j,want)=>gd (env.get j) want (aop G P o.op (env.set j (.bool want)) σ λr σ'=>trun t ((env.set j (.bool want)).put o.dst r) σ' K)
    (trun t ((env.set j (.bool (!want))).put o.dst aG) σ K) (trun t (env.put o.dst aG) σ K)
 | .both a b,env,σ,K=>trun a env σ K/\trun b env σ K
def aqc (so:SOp) (env:Env) (σ:Store) (K:AV->Prop):Prop:=
 match so with
 | .call f args=>scX (f.eval G env) λv=>AQCall G P v (args.map (·.eval G env)) K
 |so=>aq G so env σ K
def qrun:List SOper->Env->Store->(Env->Prop)->Prop
 |[],env,_,K=>K env
 |o::rest,env,σ,K=>match o.guard with
  |none=>aqc G P o.op env σ λr=>qrun rest (env.put o.dst r) σ K
  |some (j,want)=>gd (env.get j) want (aqc G P o.op (env.set j (.bool want)) σ λr=>qrun rest ((env.set j (.bool want)).put o.dst r) σ K)
    (qrun rest ((env.set j (.bool (!want))).put o.dst aG) σ K) (qrun rest (env.put o.dst aG) σ K)
def Weak (env:Env) (σ:Store) (D:Env) (σ':Store):Prop:=
 ∀(ρ:Store) (w:World) (tmps:Array Value),Sat G (σ++ρ) w->(∀j,Rep (σ++ρ) w (env.get j) (tmps.getD j undef))->
  Sat G (σ'++ρ) w/\Ev σ w σ' w/\∀j,Rep (σ'++ρ) w (D.get j) (tmps.getD j undef)
def fT (K:Env->Store->Prop) (Q:Exit->Env->Store->Prop):Exit->Env->Store->Prop
 | .normal,env,σ=>K env σ
 |e,env,σ=>Q e env σ
def k7 (id:Nat) (Q:Exit->Env->Store->Prop):Exit->Env->Store->Prop
 | .exit id',env,σ=>if id'=id then Q .normal env σ else Q (.exit id') env σ
 |e,env,σ=>Q e env σ
def swp:SCode->(Exit->Env->Store->Prop)->Env->Store->Prop
 | .skip,Q,env,σ=>Q .normal env σ
 | .region ops keep,Q,env,σ=>srun G P ops env σ λenv σ=>Q .normal (env.keep keep) σ
 | .ghost ops keep,Q,env,σ=>srun G P ops env σ λenv σ=>∃D σ',Weak G (env.keep keep) σ D σ'/\Q .normal D σ'
 | .drawT t keep,Q,env,σ=>trun G P t env σ λenv σ=>∃D σ',Weak G (env.keep keep) σ D σ'/\Q .normal D σ'
 | .drawL ops keep,Q,env,σ=>srun G P ops env σ λenv σ=>Q .normal (env.keep keep) σ
 | .draw ops keep,Q,env,σ=>qrun G P ops env σ λenv=>Q .normal (env.keep keep) σ
 | .seq a b,Q,env,σ=>swp a (fT (λenv σ=>swp b Q env σ) Q) env σ
 | .cond c a b,Q,env,σ=>match c.eval G env with
  | .bool t=>(t=true->swp a Q env σ)/\(t=false->swp b Q env σ)
  |_=>False
 | .block id a,Q,env,σ=>swp a (k7 id Q) env σ
 | .loop a,Q,env,σ=>∃(I:Nat->Env->Store->Prop) (n:Nat) (F:Env) (σ0:Store),I n F σ0/\Weak G env σ F σ0/\
   ∀n env σ,I n env σ->swp a (fT (λD σ'=>∃m E J,m<n/\I m E J/\Weak G D σ' E J) Q) env σ
 | .exit id,Q,env,σ=>Q (.exit id) env σ
 | .ret,Q,env,σ=>Q .ret env σ
 | .bad,_,_,_=>False
end
end Go.Av
