/-
  LINT: an item that is handed, opened.
-/
import Derived.Test.YtppjieiiibgagaaGreatDoorWXAv26toXGlob
import Derived.Test.YtppjieiiibgagaaGreatDoorWXL18toXL21
set_option linter.all false
namespace Go.Av
open Go Go.RowKit Go.Proofs List
section
variable {P:Program} {B n:Nat} {t e:TypeId} {a:List AV}
def bO {k:IntKind} (D:P.underlying t=some (.int k)) (h:Shp P B n t a):∃i,a=[.int k i]:=by
 cases n with
 |zero=>exact h.elim
 |succ n=>simpa only[Shp,D]using h
def fk (D:P.underlying t=some .string) (h:Shp P B n t a):∃s:List UInt8,s.length<=B/\a=[.str s]:=by
 cases n with
 |zero=>exact h.elim
 |succ n=>simpa only[Shp,D]using h
def cT {fs:Array Field} (D:P.underlying t=some (.struct fs)) (h:Shp P B n t a):∃m,n=m+1/\ShpF (Shp P B m) fs.toList a:=by
 cases n with
 |zero=>exact h.elim
 |succ n=>exact⟨n,rfl,by simpa only[Shp,D]using h⟩
def kr {α:Type} {f:α->List AV} {q:α->Prop}:∀rows:List (List AV),(∀r∈rows,∃x,r=f x/\q x)->∃l:List α,rows=l.map f/\∀x∈l,q x
 |[],_=>⟨[],rfl,λx E=>by cases E⟩
 |r::rows,h=>by
  obtain⟨x,E,J⟩:=h r (by simp);obtain⟨l,I,D⟩:=kr rows λr M=>h r (by simp[M]);refine⟨x::l,by rw[E,I];rfl,λy F=>?_⟩
  rcases mem_cons.1 F with rfl|F
  ·exact J
  ·exact D y F
def qK {α:Type} {f:α->List AV} {q:α->Prop} {sz:Nat} (O:P.underlying t=some (.slice e)) (I:P.cellsOf e=sz) (D:∀m,m<n->∀r,Shp P B m e r->∃x,r=f x/\q x) (h:Shp P B n t a):
  ∃l:List α,a=[.lst sz (l.map f)]/\l.length<=B/\l.length*P.bytesOf e<=B/\∀x∈l,q x:=by
 cases n with
 |zero=>exact h.elim
 |succ n=>
  simp only[Shp,O]at h;obtain⟨rows,rfl,J,E,N⟩:=h;obtain⟨l,rfl,M⟩:=kr rows λr F=>D n (Nat.lt_succ_self n) r (N r F);exact⟨l,by rw[I],by simpa using J,by simpa using E,M⟩
def fN {α:Type} {f:α->List AV} {q:α->Prop} {sz:Nat} (M:P.underlying t=some (.slice e)) (E:P.cellsOf e=sz) (D:∀m,m<n->∀r,Shp P B m e r->∃x,r=f x/\q x) (h:Shp P B n t a):
  ∃l:List α,a=[.lst sz (l.map f)]/\l.length<=B/\∀x∈l,q x:=by
 obtain⟨l,F,I,_,J⟩:=qK M E D h
 exact⟨l,F,I,J⟩
end
def toL {α:Type} (l:List α):l.toArray.toList=l:=rfl
abbrev Big (n:Nat):Prop:=n<1000000000000000000
def dW {n:Nat} (h:n<=reachBytes):Big n:=by unfold reachBytes at h;show n<_;omega
def open_id {n:Nat} {a:List AV} (h:Shp Tryz.prog reachBytes n 23 a):∃i:Idd,a=i.cs:=by
 obtain⟨m,rfl,g⟩:=cT Tryz.underlying23 h;clear h;simp only[toL,ShpF]at g;obtain⟨N,V,rfl,D,O,X,rfl,E,T,Y,rfl,F,rfl⟩:=g;obtain⟨I,rfl⟩:=bO Tryz.underlying3 D;obtain⟨J,rfl⟩:=bO Tryz.underlying3 E;obtain⟨M,rfl⟩:=bO Tryz.underlying3 F;exact⟨⟨I,J,M⟩,rfl⟩
def open_mark {n:Nat} {a:List AV} (h:Shp Tryz.prog reachBytes n 116 a):∃D E F:Int,a=[.i D,.i E,.i F]:=by
 obtain⟨m,rfl,g⟩:=cT Tryz.underlying116 h;clear h;simp only[toL,ShpF]at g;obtain⟨N,V,rfl,I,O,X,rfl,J,T,Y,rfl,M,rfl⟩:=g;obtain⟨D,rfl⟩:=bO Tryz.underlying3 I;obtain⟨E,rfl⟩:=bO Tryz.underlying3 J;obtain⟨F,rfl⟩:=bO Tryz.underlying3 M;exact⟨D,E,F,rfl⟩
def open_word {n:Nat} {a:List AV} (h:Shp Tryz.prog reachBytes n 118 a):∃w:Wd,a=w.cs/\Big w.text.length:=by
 obtain⟨m,rfl,g⟩:=cT Tryz.underlying118 h;clear h;simp only[toL,ShpF]at g;obtain⟨N,T,rfl,D,O,V,rfl,E,rfl⟩:=g;obtain⟨s,F,rfl⟩:=fk Tryz.underlying9 D;obtain⟨I,J,M,rfl⟩:=open_mark E;exact⟨⟨s,I,J,M⟩,rfl,dW F⟩
def open_step {n:Nat} {a:List AV} (h:Shp Tryz.prog reachBytes n 85 a):∃w:Stp,a=w.cs/\Big w.label.length:=by
 obtain⟨m,rfl,g⟩:=cT Tryz.underlying85 h;clear h;simp only[toL,ShpF]at g;obtain⟨J,N,rfl,D,M,O,rfl,E,rfl⟩:=g;obtain⟨I,rfl⟩:=bO Tryz.underlying3 D;obtain⟨s,F,rfl⟩:=fk Tryz.underlying9 E;exact⟨⟨I,s⟩,rfl,dW F⟩
def re {n:Nat} {a:List AV} (h:Shp Tryz.prog reachBytes n 31 a):∃s:Sta,a=[.i s.kind,.i s.day,.str s.event]/\Big s.event.length:=by
 obtain⟨m,rfl,g⟩:=cT Tryz.underlying31 h;clear h;simp only[toL,ShpF]at g;obtain⟨N,V,rfl,D,O,X,rfl,E,T,Y,rfl,F,rfl⟩:=g;obtain⟨J,rfl⟩:=bO Tryz.underlying3 D;obtain⟨M,rfl⟩:=bO Tryz.underlying3 E;obtain⟨s,I,rfl⟩:=fk Tryz.underlying9 F;exact⟨⟨J,M,s⟩,rfl,dW I⟩
def md {n:Nat} {a:List AV} (h:Shp Tryz.prog reachBytes n 24 a):∃l:List Wd,a=[.lst 4 (l.map Wd.cs)]/\Big l.length/\∀w∈l,Big w.text.length:=by
 obtain⟨l,D,E,F⟩:=fN (f:=Wd.cs) (q:=λw=>Big w.text.length) (sz:=4) Tryz.underlying24 (by kernel_rfl) (λm _ r I=>open_word I) h;exact⟨l,D,dW E,F⟩
def lA {n:Nat} {a:List AV} (h:Shp Tryz.prog reachBytes n 28 a):∃l:List Stp,a=[.lst 2 (l.map Stp.cs)]/\Big l.length/\∀w∈l,Big w.label.length:=by
 obtain⟨l,D,E,F⟩:=fN (f:=Stp.cs) (q:=λw=>Big w.label.length) (sz:=2) Tryz.underlying28 (by kernel_rfl) (λm _ r I=>open_step I) h;exact⟨l,D,dW E,F⟩
def ns {n:Nat} {a:List AV} (h:Shp Tryz.prog reachBytes n 29 a):∃l:List (List UInt8),a=[.lst 1 (l.map srow)]/\Big l.length/\∀w∈l,Big w.length:=by
 obtain⟨l,D,E,F⟩:=fN (f:=srow) (q:=λw=>Big w.length) (sz:=1) Tryz.underlying29 (by kernel_rfl) (λm _ r I=>by
  obtain⟨s,J,rfl⟩:=fk Tryz.underlying9 I
  exact⟨s,rfl,dW J⟩) h
 exact⟨l,D,dW E,F⟩
def np:∀(n:Nat) (a:List AV),Shp Tryz.prog reachBytes n 27 a->∃u:U,a=u.cs/\u.fit:=by
 intro n
 induction n using Nat.strongRecOn with
 |ind n ih=>
  intro a h;obtain⟨m,rfl,g⟩:=cT Tryz.underlying27 h;clear h;simp only[toL,ShpF]at g;obtain⟨a1,b1,rfl,D,a2,b2,rfl,E,a3,b3,rfl,F,a4,b4,rfl,I,a5,b5,rfl,J,a6,b6,rfl,M,rfl⟩:=g;obtain⟨i,rfl⟩:=open_id D;obtain⟨k,rfl⟩:=bO Tryz.underlying3 E;obtain⟨s,T,rfl⟩:=fk Tryz.underlying9 F;obtain⟨N,rfl,V,X⟩:=md I;obtain⟨wd,rfl,Y,Z⟩:=md J;obtain⟨ks,rfl,q5,q6⟩:=fN (f:=U.cs) (q:=U.fit) (sz:=8) Tryz.underlying25 (by kernel_rfl) (λm' hm r O=>ih m' (by omega) r O) M;refine⟨⟨i,k,s,N,wd,ks⟩,?_,(rN _).2 ⟨dW T,⟨V,X⟩,⟨Y,Z⟩,dW q5,q6⟩⟩;rw[b0];rfl
end Go.Av
