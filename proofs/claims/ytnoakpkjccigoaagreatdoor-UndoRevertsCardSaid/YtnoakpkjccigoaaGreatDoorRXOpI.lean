/-
  LINT: an item that is handed, opened.
-/
import Derived.Test.YtnoakpkjccigoaaGreatDoorRXAv26toXGlob
import Derived.Test.YtnoakpkjccigoaaGreatDoorRXL18toXL21
namespace Go.Av
open Go Go.RowKit Go.Proofs List
set_option linter.unusedSimpArgs false
set_option linter.unusedVariables false
section
variable {P:Program} {B n:Nat} {t e:TypeId} {a:List AV}
theorem bL {k:IntKind} (D:P.underlying t=some (.int k)) (h:Shp P B n t a):∃i,a=[.int k i]:=by
 cases n with
 |zero=>exact h.elim
 |succ n=>simpa only[Shp,D]using h
theorem eN (D:P.underlying t=some .string) (h:Shp P B n t a):∃s:List UInt8,s.length<=B/\a=[.str s]:=by
 cases n with
 |zero=>exact h.elim
 |succ n=>simpa only[Shp,D]using h
theorem cD {fs:Array Field} (D:P.underlying t=some (.struct fs)) (h:Shp P B n t a):∃m,n=m+1/\ShpF (Shp P B m) fs.toList a:=by
 cases n with
 |zero=>exact h.elim
 |succ n=>exact⟨n,rfl,by simpa only[Shp,D]using h⟩
theorem jt {α:Type} {f:α->List AV} {q:α->Prop}:∀rows:List (List AV),(∀r∈rows,∃x,r=f x/\q x)->∃l:List α,rows=l.map f/\∀x∈l,q x
 |[],_=>⟨[],rfl,λx E=>by cases E⟩
 |r::rows,h=>by
  obtain⟨x,E,J⟩:=h r (by simp)
  obtain⟨l,I,D⟩:=jt rows λr M=>h r (by simp[M])
  refine⟨x::l,by rw[E,I];rfl,λy F=>?_⟩
  rcases mem_cons.1 F with rfl|F
  ·exact J
  ·exact D y F
theorem oS {α:Type} {f:α->List AV} {q:α->Prop} {sz:Nat} (O:P.underlying t=some (.slice e)) (I:P.cellsOf e=sz) (D:∀m,m<n->∀r,Shp P B m e r->∃x,r=f x/\q x) (h:Shp P B n t a):
  ∃l:List α,a=[.lst sz (l.map f)]/\l.length<=B/\l.length*P.bytesOf e<=B/\∀x∈l,q x:=by
 cases n with
 |zero=>exact h.elim
 |succ n=>
  simp only[Shp,O]at h
  obtain⟨rows,rfl,J,E,N⟩:=h
  obtain⟨l,rfl,M⟩:=jt rows λr F=>D n (Nat.lt_succ_self n) r (N r F)
  exact⟨l,by rw[I],by simpa using J,by simpa using E,M⟩
theorem fg {α:Type} {f:α->List AV} {q:α->Prop} {sz:Nat} (M:P.underlying t=some (.slice e)) (E:P.cellsOf e=sz) (D:∀m,m<n->∀r,Shp P B m e r->∃x,r=f x/\q x) (h:Shp P B n t a):
  ∃l:List α,a=[.lst sz (l.map f)]/\l.length<=B/\∀x∈l,q x:=by
 obtain⟨l,F,I,_,J⟩:=oS M E D h
 exact⟨l,F,I,J⟩
end
theorem toL {α:Type} (l:List α):l.toArray.toList=l:=rfl
abbrev Big (n:Nat):Prop:=n<1000000000000000000
theorem dF {n:Nat} (h:n<=reachBytes):Big n:=by unfold reachBytes at h;show n<_;omega
theorem qB {n:Nat} {a:List AV} (h:Shp Tryz.prog reachBytes n 23 a):∃i:Idd,a=i.cs:=by
 obtain⟨m,rfl,g⟩:=cD Tryz.underlying23 h
 clear h
 simp only[toL,ShpF]at g
 obtain⟨N,V,rfl,D,O,X,rfl,E,T,Y,rfl,F,rfl⟩:=g
 obtain⟨I,rfl⟩:=bL Tryz.underlying3 D
 obtain⟨J,rfl⟩:=bL Tryz.underlying3 E
 obtain⟨M,rfl⟩:=bL Tryz.underlying3 F
 exact⟨⟨I,J,M⟩,rfl⟩
theorem open_mark {n:Nat} {a:List AV} (h:Shp Tryz.prog reachBytes n 31 a):∃D E F:Int,a=[.int .i64 D,.int .i64 E,.int .i64 F]:=by
 obtain⟨m,rfl,g⟩:=cD Tryz.underlying31 h
 clear h
 simp only[toL,ShpF]at g
 obtain⟨N,V,rfl,I,O,X,rfl,J,T,Y,rfl,M,rfl⟩:=g
 obtain⟨D,rfl⟩:=bL Tryz.underlying3 I
 obtain⟨E,rfl⟩:=bL Tryz.underlying3 J
 obtain⟨F,rfl⟩:=bL Tryz.underlying3 M
 exact⟨D,E,F,rfl⟩
theorem open_word {n:Nat} {a:List AV} (h:Shp Tryz.prog reachBytes n 33 a):∃w:Wd,a=w.cs/\Big w.text.length:=by
 obtain⟨m,rfl,g⟩:=cD Tryz.underlying33 h
 clear h
 simp only[toL,ShpF]at g
 obtain⟨N,T,rfl,D,O,V,rfl,E,rfl⟩:=g
 obtain⟨s,F,rfl⟩:=eN Tryz.underlying9 D
 obtain⟨I,J,M,rfl⟩:=open_mark E
 exact⟨⟨s,I,J,M⟩,rfl,dF F⟩
theorem ki {n:Nat} {a:List AV} (h:Shp Tryz.prog reachBytes n 24 a):∃l:List Wd,a=[.lst 4 (l.map Wd.cs)]/\Big l.length/\∀w∈l,Big w.text.length:=by
 obtain⟨l,D,E,F⟩:=fg (f:=Wd.cs) (q:=λw=>Big w.text.length) (sz:=4) Tryz.underlying24 (by kernel_rfl) (λm _ r I=>open_word I) h
 exact⟨l,D,dF E,F⟩
theorem ls:∀(n:Nat) (a:List AV),Shp Tryz.prog reachBytes n 27 a->∃u:U,a=u.cs/\u.fit:=by
 intro n
 induction n using Nat.strongRecOn with
 |ind n ih=>
  intro a h
  obtain⟨m,rfl,g⟩:=cD Tryz.underlying27 h
  clear h
  simp only[toL,ShpF]at g
  obtain⟨a1,b1,rfl,D,a2,b2,rfl,E,a3,b3,rfl,F,a4,b4,rfl,I,a5,b5,rfl,J,a6,b6,rfl,M,rfl⟩:=g
  obtain⟨i,rfl⟩:=qB D
  obtain⟨k,rfl⟩:=bL Tryz.underlying3 E
  obtain⟨s,T,rfl⟩:=eN Tryz.underlying9 F
  obtain⟨N,rfl,V,X⟩:=ki I
  obtain⟨wd,rfl,Y,Z⟩:=ki J
  obtain⟨ks,rfl,q5,q6⟩:=fg (f:=U.cs) (q:=U.fit) (sz:=8) Tryz.underlying25 (by kernel_rfl) (λm' hm r O=>ih m' (by omega) r O) M
  refine⟨⟨i,k,s,N,wd,ks⟩,?_,(U.fit_eq _).2 ⟨dF T,⟨V,X⟩,⟨Y,Z⟩,dF q5,q6⟩⟩
  rw[U.cs_eq]
  rfl
end Go.Av
