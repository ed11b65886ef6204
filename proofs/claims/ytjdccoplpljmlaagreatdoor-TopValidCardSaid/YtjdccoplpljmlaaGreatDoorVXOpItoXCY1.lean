/-
  LINT: an item that is handed, opened.
-/
import Derived.Test.YtjdccoplpljmlaaGreatDoorVXAv26toXGlob
import Derived.Test.YtjdccoplpljmlaaGreatDoorVXL18toXL21
import Derived.Test.YtjdccoplpljmlaaGreatDoorVXDattoXC1
import Derived.Test.YtjdccoplpljmlaaGreatDoorProg
namespace Go.Av
open Go Go.RowKit Go.Proofs List
set_option linter.unusedSimpArgs false
set_option linter.unusedVariables false
section
variable {P:Program} {B n:Nat} {t e:TypeId} {a:List AV}
theorem bA {k:IntKind} (E:P.underlying t=some (.int k)) (h:Shp P B n t a):∃i,a=[.int k i]:=by
 cases n with
 |zero=>exact h.elim
 |succ n=>simpa only[Shp,E]using h
theorem dD (E:P.underlying t=some .string) (h:Shp P B n t a):∃s:List UInt8,s.length<=B/\a=[.str s]:=by
 cases n with
 |zero=>exact h.elim
 |succ n=>simpa only[Shp,E]using h
theorem cd {fs:Array Field} (E:P.underlying t=some (.struct fs)) (h:Shp P B n t a):∃m,n=m+1/\ShpF (Shp P B m) fs.toList a:=by
 cases n with
 |zero=>exact h.elim
 |succ n=>exact⟨n,rfl,by simpa only[Shp,E]using h⟩
theorem js {α:Type} {f:α->List AV} {q:α->Prop}:∀rows:List (List AV),(∀r∈rows,∃x,r=f x/\q x)->∃l:List α,rows=l.map f/\∀x∈l,q x
 |[],_=>⟨[],rfl,λx F=>by cases F⟩
 |r::rows,h=>by
  obtain⟨x,F,M⟩:=h r (by simp)
  obtain⟨l,J,E⟩:=js rows λr N=>h r (by simp[N])
  refine⟨x::l,by rw[F,J];rfl,λy I=>?_⟩
  rcases mem_cons.1 I with rfl|I
  ·exact M
  ·exact E y I
theorem oO {α:Type} {f:α->List AV} {q:α->Prop} {sz:Nat} (T:P.underlying t=some (.slice e)) (J:P.cellsOf e=sz) (E:∀m,m<n->∀r,Shp P B m e r->∃x,r=f x/\q x) (h:Shp P B n t a):
  ∃l:List α,a=[.lst sz (l.map f)]/\l.length<=B/\l.length*P.bytesOf e<=B/\∀x∈l,q x:=by
 cases n with
 |zero=>exact h.elim
 |succ n=>
  simp only[Shp,T]at h
  obtain⟨rows,rfl,M,F,O⟩:=h
  obtain⟨l,rfl,N⟩:=js rows λr I=>E n (Nat.lt_succ_self n) r (O r I)
  exact⟨l,by rw[J],by simpa using M,by simpa using F,N⟩
theorem cT {α:Type} {f:α->List AV} {q:α->Prop} {sz:Nat} (N:P.underlying t=some (.slice e)) (F:P.cellsOf e=sz) (E:∀m,m<n->∀r,Shp P B m e r->∃x,r=f x/\q x) (h:Shp P B n t a):
  ∃l:List α,a=[.lst sz (l.map f)]/\l.length<=B/\∀x∈l,q x:=by
 obtain⟨l,I,J,_,M⟩:=oO N F E h
 exact⟨l,I,J,M⟩
end
theorem toL {α:Type} (l:List α):l.toArray.toList=l:=rfl
abbrev Big (n:Nat):Prop:=n<1000000000000000000
theorem dv {n:Nat} (h:n<=reachBytes):Big n:=by unfold reachBytes at h;show n<_;omega
theorem open_id {n:Nat} {a:List AV} (h:Shp Tryz.prog reachBytes n 25 a):∃i:Idd,a=i.cs:=by
 obtain⟨m,rfl,g⟩:=cd Tryz.underlying25 h
 clear h
 simp only[toL,ShpF]at g
 obtain⟨O,X,rfl,E,T,Y,rfl,F,V,Z,rfl,I,rfl⟩:=g
 obtain⟨J,rfl⟩:=bA Tryz.underlying3 E
 obtain⟨M,rfl⟩:=bA Tryz.underlying3 F
 obtain⟨N,rfl⟩:=bA Tryz.underlying3 I
 exact⟨⟨J,M,N⟩,rfl⟩
theorem open_mark {n:Nat} {a:List AV} (h:Shp Tryz.prog reachBytes n 86 a):∃E F I:Int,a=[.int .i64 E,.int .i64 F,.int .i64 I]:=by
 obtain⟨m,rfl,g⟩:=cd Tryz.underlying86 h
 clear h
 simp only[toL,ShpF]at g
 obtain⟨O,X,rfl,J,T,Y,rfl,M,V,Z,rfl,N,rfl⟩:=g
 obtain⟨E,rfl⟩:=bA Tryz.underlying3 J
 obtain⟨F,rfl⟩:=bA Tryz.underlying3 M
 obtain⟨I,rfl⟩:=bA Tryz.underlying3 N
 exact⟨E,F,I,rfl⟩
theorem open_word {n:Nat} {a:List AV} (h:Shp Tryz.prog reachBytes n 88 a):∃w:Wd,a=w.cs/\Big w.text.length:=by
 obtain⟨m,rfl,g⟩:=cd Tryz.underlying88 h
 clear h
 simp only[toL,ShpF]at g
 obtain⟨O,V,rfl,E,T,X,rfl,F,rfl⟩:=g
 obtain⟨s,I,rfl⟩:=dD Tryz.underlying9 E
 obtain⟨J,M,N,rfl⟩:=open_mark F
 exact⟨⟨s,J,M,N⟩,rfl,dv I⟩
theorem open_step {n:Nat} {a:List AV} (h:Shp Tryz.prog reachBytes n 128 a):∃w:Stp,a=w.cs/\Big w.label.length:=by
 obtain⟨m,rfl,g⟩:=cd Tryz.underlying128 h
 clear h
 simp only[toL,ShpF]at g
 obtain⟨M,O,rfl,E,N,T,rfl,F,rfl⟩:=g
 obtain⟨J,rfl⟩:=bA Tryz.underlying3 E
 obtain⟨s,I,rfl⟩:=dD Tryz.underlying9 F
 exact⟨⟨J,s⟩,rfl,dv I⟩
theorem kr {n:Nat} {a:List AV} (h:Shp Tryz.prog reachBytes n 59 a):∃s:Sta,a=[.int .i64 s.kind,.int .i64 s.day,.str s.event]/\Big s.event.length:=by
 obtain⟨m,rfl,g⟩:=cd Tryz.underlying59 h
 clear h
 simp only[toL,ShpF]at g
 obtain⟨O,X,rfl,E,T,Y,rfl,F,V,Z,rfl,I,rfl⟩:=g
 obtain⟨M,rfl⟩:=bA Tryz.underlying3 E
 obtain⟨N,rfl⟩:=bA Tryz.underlying3 F
 obtain⟨s,J,rfl⟩:=dD Tryz.underlying9 I
 exact⟨⟨M,N,s⟩,rfl,dv J⟩
theorem kZ {n:Nat} {a:List AV} (h:Shp Tryz.prog reachBytes n 26 a):∃l:List Wd,a=[.lst 4 (l.map Wd.cs)]/\Big l.length/\∀w∈l,Big w.text.length:=by
 obtain⟨l,E,F,I⟩:=cT (f:=Wd.cs) (q:=λw=>Big w.text.length) (sz:=4) Tryz.underlying26 (by kernel_rfl) (λm _ r J=>open_word J) h
 exact⟨l,E,dv F,I⟩
theorem jQ {n:Nat} {a:List AV} (h:Shp Tryz.prog reachBytes n 56 a):∃l:List Stp,a=[.lst 2 (l.map Stp.cs)]/\Big l.length/\∀w∈l,Big w.label.length:=by
 obtain⟨l,E,F,I⟩:=cT (f:=Stp.cs) (q:=λw=>Big w.label.length) (sz:=2) Tryz.underlying56 (by kernel_rfl) (λm _ r J=>open_step J) h
 exact⟨l,E,dv F,I⟩
theorem lN {n:Nat} {a:List AV} (h:Shp Tryz.prog reachBytes n 57 a):∃l:List (List UInt8),a=[.lst 1 (l.map srow)]/\Big l.length/\∀w∈l,Big w.length:=by
 obtain⟨l,E,F,I⟩:=cT (f:=srow) (q:=λw=>Big w.length) (sz:=1) Tryz.underlying57 (by kernel_rfl) (λm _ r J=>by
  obtain⟨s,M,rfl⟩:=dD Tryz.underlying9 J
  exact⟨s,rfl,dv M⟩) h
 exact⟨l,E,dv F,I⟩
theorem open_unit:∀(n:Nat) (a:List AV),Shp Tryz.prog reachBytes n 29 a->∃u:U,a=u.cs/\u.fit:=by
 intro n
 induction n using Nat.strongRecOn with
 |ind n ih=>
  intro a h
  obtain⟨m,rfl,g⟩:=cd Tryz.underlying29 h
  clear h
  simp only[toL,ShpF]at g
  obtain⟨a1,b1,rfl,E,a2,b2,rfl,F,a3,b3,rfl,I,a4,b4,rfl,J,a5,b5,rfl,M,a6,b6,rfl,N,rfl⟩:=g
  obtain⟨i,rfl⟩:=open_id E
  obtain⟨k,rfl⟩:=bA Tryz.underlying3 F
  obtain⟨s,V,rfl⟩:=dD Tryz.underlying9 I
  obtain⟨O,rfl,X,Y⟩:=kZ J
  obtain⟨wd,rfl,Z,q4⟩:=kZ M
  obtain⟨ks,rfl,q5,q6⟩:=cT (f:=U.cs) (q:=U.fit) (sz:=8) Tryz.underlying27 (by kernel_rfl) (λm' hm r T=>ih m' (by omega) r T) N
  refine⟨⟨i,k,s,O,wd,ks⟩,?_,(U.fit_eq _).2 ⟨dv V,⟨X,Y⟩,⟨Z,q4⟩,dv q5,q6⟩⟩
  rw[U.cs_eq]
  rfl
theorem open_item:∀(n:Nat) (a:List AV),Shp Tryz.prog reachBytes n 61 a->∃x:Itm,a=x.cs/\x.fit:=by
 intro n
 induction n using Nat.strongRecOn with
 |ind n ih=>
  intro a h
  obtain⟨m,rfl,g⟩:=cd Tryz.underlying61 h
  clear h
  simp only[toL,ShpF]at g
  obtain⟨a1,b1,rfl,h1,a2,b2,rfl,h2,a3,b3,rfl,h3,a4,b4,rfl,h4,a5,b5,rfl,h5,a6,b6,rfl,h6,a7,b7,rfl,h7,a8,b8,rfl,h8,a9,b9,rfl,h9,ad,bd,rfl,E,ag,be,rfl,F,ah,bh,rfl,I,al,bk,rfl,J,an,bm,rfl,M,aw,bn,rfl,N,bb,bo,rfl,O,rfl⟩:=g
  obtain⟨k,rfl⟩:=bA Tryz.underlying3 h1
  obtain⟨l2,rfl,q2,_⟩:=jQ h2
  obtain⟨l3,rfl,q3,_⟩:=jQ h3
  obtain⟨i4,rfl⟩:=bA Tryz.underlying3 h4
  obtain⟨i5,rfl⟩:=bA Tryz.underlying3 h5
  obtain⟨u6,rfl,q6⟩:=open_unit _ _ h6
  obtain⟨l7,rfl,q7,_⟩:=lN h7
  obtain⟨l8,rfl,q8,_⟩:=lN h8
  obtain⟨s9,_,rfl⟩:=dD Tryz.underlying9 h9
  obtain⟨s10,_,rfl⟩:=dD Tryz.underlying9 E
  obtain⟨s11,rfl,_⟩:=kr F
  obtain⟨T,rfl⟩:=bA Tryz.underlying3 I
  obtain⟨V,rfl⟩:=bA Tryz.underlying3 J
  obtain⟨X,rfl⟩:=bA Tryz.underlying3 M
  obtain⟨s15,_,rfl⟩:=dD Tryz.underlying9 N
  obtain⟨Y,rfl,ac,Z⟩:=cT (f:=Itm.cs) (q:=Itm.fit) (sz:=25) Tryz.underlying41 (by kernel_rfl) (λm' hm r hr=>ih m' (by omega) r hr) O
  refine⟨⟨k,l2,l3,i4,i5,u6,l7,l8,s9,s10,s11,T,V,X,s15,Y⟩,?_,(Itm.fit_eq _).2 ⟨q2,q3,q6,q7,q8,dv ac,Z⟩⟩
  rw[Itm.cs_eq,U.cs_eq]
  rfl
end Go.Av
namespace Go.Av
open Go List
set_option linter.unusedSimpArgs false
set_option linter.unusedVariables false
abbrev Zi14:SCode:=qs (.region [qa 6 (.mov qt)] [6]) .ret
abbrev Zi13:SCode:=qs (.region [qa 4 (.mov (qi 1))] [4]) .ret
abbrev Zi12:List SOper:=[qa 4 (.mov (qi 0))]
abbrev Zi11:SCode:=.region [] []
abbrev Zi10:SCode:=.region [qa 4 (.mov (.c .nil))] [0,1]
abbrev Zi9:SCode:=qs (.region [qa 6 (.mov qf)] [6]) .ret
abbrev Zi8:List AV:=[.int .i64 0,.int .i64 0]
abbrev Zi7:SCode:=qs (.region [qa 4 (.mov (qi (-1)))] [4]) .ret
abbrev Zi6:DT:=.step (qa 49 (.call (.t 40) [.t 44,.t 48])) (.step (qa 50 (.bin .lss (.t 49) (qi 0))) .done)
abbrev Zi5:DT:=.step (qa 101 (.call (.t 92) [.t 96,.t 100])) (.step (qa 102 (.bin .lss (.t 101) (qi 0))) (.step (qa 103 (.not (.t 102))) .done))
abbrev Zi4:DT:=.step (qa 169 (.call (.t 158) [.t 164,.t 168])) (.step (qa 170 (.bin .lss (.t 169) (qi 0))) (.step (qa 171 (.not (.t 170))) .done))
abbrev Zi3:DT:=.step (qa 75 (.indexA 7 (.t 61) (.t 62))) (.step ⟨none,none,.store 7 (.t 75) (.t 70)⟩ (.step (qa 76 (.indexA 7 (.t 63) (.t 65))) (.step ⟨none,none,.store 7 (.t 76) (.t 74)⟩ .done)))
abbrev Zi2:DT:=.step (qa 127 (.indexA 7 (.t 113) (.t 114))) (.step ⟨none,none,.store 7 (.t 127) (.t 122)⟩ (.step (qa 128 (.indexA 7 (.t 115) (.t 117))) (.step ⟨none,none,.store 7 (.t 128) (.t 126)⟩ .done)))
abbrev Zi1:DT:=.step (qa 40 (.raw (.lookup 249 (.tmp 36) (.tmp 39) true))) (.step (qa 35 (.mov (.t 40))) (.step (qa 41 (.extract 0 (.t 35))) (.step (qa 42 (.extract 1 (.t 35))) (.step (qa 10 (.mov (.t 41))) (.step (qa 11 (.mov (.t 42))) .done)))))
abbrev Zi0:List AV:=[.int .i64 0,.int .i64 0,.int .i64 0,.int .i64 0,.nil,.nil,.int .i64 0,.int .i64 0,.int .i64 0,.int .i64 0,.int .i64 0,.int .i64 0,.str [],.nil,.nil,.nil,.nil,.nil,.str [],.str [],.int .i64 0,.int .i64 0,.str [],.int .i64 0,.int .i64 0,.int .i64 0,.str [],.nil]
def r3:List (Nat×Option (Bool×Nat)):=[(6,none)]
def s3:SCode:=qs (.region [qa 6 (.mov qf)] [0,1,2]) (qs (qs (.region [qa 11 (.mov (.t 0)),qa 12 (.mov (.t 2)),qa 13 (.call (.f 6) [.t 11,.t 12]),qa 14 (.not (.t 13))] [0,1,2,14]) (.cond (.t 14) Zi14 .skip)) (qs (.region [qa 15 (.mov (.t 1)),qa 16 (.mov (.t 2)),qa 17 (.mov (.t 0)),qa 18 (.call (.f 7) [.t 15,.t 16,.t 17]),qa 7 (.alloc 29 zU),⟨none,none,.store 8 (.t 7) (.t 18)⟩] [7]) (qs (qs (.region [qa 19 (.load true 8 (.t 7)),qa 20 (.call (.f 8) [.t 19]),qa 21 (.not (.t 20)),qa 22 (.mov (.t 21)),qc 23 22 (.load true 8 (.t 7)),qc 24 22 (.call (.f 9) [.t 23]),qc 25 22 (.not (.t 24)),qa 26 (.pick (.t 22) qt (.t 25)),qa 27 (.mov (.t 26)),qc 28 27 (.fieldA 3 (.t 7)),qc 29 27 (ql (.t 28)),qc 30 27 (.bin .neq (.t 29) (qi 0)),qa 31 (.pick (.t 27) qt (.t 30))] [7,31]) (.cond (.t 31) Zi9 .skip)) (qs (.region [qa 32 (.load true 8 (.t 7)),qa 33 (.call (.f 10) [.t 32]),qa 8 (.mov (.t 33))] [8]) (qs (qs (.region [qa 9 (.mov (qi 0))] [8,9]) (qs (.block 0 (.loop (qs (qs (.region [qa 34 (.mov (.t 9)),qa 35 (.mov (.t 8)),qa 36 (.len (.t 35)),qa 37 (.bin .lss (.t 34) (.t 36))] [8,9,37]) (.cond (.t 37) .skip (.exit 0))) (qs (qs (.block 1 (qs (.region [qa 10 (.mov (qi 0))] [8,9,10]) (qs (.block 2 (.loop (qs (qs (.region [qa 40 (.mov (.t 10)),qa 41 (.mov (.t 9)),qa 42 (.bin .lss (.t 40) (.t 41))] [8,9,10,42]) (.cond (.t 42) .skip (.exit 2))) (qs (qs (.block 3 (qs (.draw [qa 45 (.mov (.t 8)),qa 46 (.mov (.t 9)),qa 47 (.indexA 3 (.t 45) (.t 46)),qa 48 (.load true 3 (.t 47)),qa 49 (.mov (.t 8)),qa 50 (.mov (.t 10)),qa 51 (.indexA 3 (.t 49) (.t 50)),qa 52 (.load true 3 (.t 51)),qa 53 (.eqs false [1,1,1] (.t 48) (.t 52))] [8,9,10,53]) (.cond (.t 53) Zi9 .skip))) (.region [] [8,9,10])) (.region [qa 43 (.mov (.t 10)),qa 44 (.bin .add (.t 43) (qi 1)),qa 10 (.mov (.t 44))] [8,9,10]))))) (.region [] [8,9])))) (.region [] [8,9])) (.region [qa 38 (.mov (.t 9)),qa 39 (.bin .add (.t 38) (qi 1)),qa 9 (.mov (.t 39))] [8,9]))))) Zi11)) Zi14)))))
theorem c3:fnAt Go.Proofs.Tryz.prog 3 []=some (r3,s3):=by kernel_rfl
def r7:List (Nat×Option (Bool×Nat)):=[(6,some (true,8))]
def s7:SCode:=qs (.region [qa 6 (.alloc 29 zU)] [0,1,2,6]) (qs (.region [qa 10 (.mov (.t 0)),qa 11 (.mov (.t 1)),qa 12 (.mov (.t 2)),qa 13 (.call (.f 30) [.t 10,.t 11,.t 12]),qa 14 (.call (.f 31) [.t 13]),qa 9 (.mov (.t 14)),qa 15 (.extract 0 (.t 9)),qa 16 (.extract 1 (.t 9)),qa 7 (.alloc 29 zU),⟨none,none,.store 8 (.t 7) (.t 15)⟩,qa 8 (.mov (.t 16))] [6,7]) (qs (.region [qa 17 (.load true 8 (.t 7)),⟨none,none,.store 8 (.t 6) (.t 17)⟩] [6]) .ret))
theorem c7:fnAt Go.Proofs.Tryz.prog 7 []=some (r7,s7):=by kernel_rfl
def r30:List (Nat×Option (Bool×Nat)):=[(6,none)]
def s30:SCode:=qs (.region [qa 6 (.mov (.c .nil))] [0,1,2]) (qs (.region [qa 7 (.mov (.t 0)),qa 8 (.mov (.t 1)),qa 9 (.mov (.t 2)),qa 10 (.call (.f 69) [.t 7,.t 8,.t 9]),qa 6 (.mov (.t 10))] [6]) .ret)
theorem c30:fnAt Go.Proofs.Tryz.prog 30 []=some (r30,s30):=by kernel_rfl
def r69:List (Nat×Option (Bool×Nat)):=[(6,none)]
def s69:SCode:=qs (.region [qa 3 (.box 3 1 (.t 0)),qa 4 (.box 9 1 (.t 1)),qa 6 (.mov (.c .nil))] [2,3,4]) (qs (.region [qa 7 (.alloc 49 [.nil])] [2,3,4,7]) (qs (.region [qa 8 (.mov (.t 2)),qa 9 (.mkfun (.func 122) [] [.t 4,.t 3,.t 7]),qa 10 (.call (.f 121) [.t 8,.t 9])] [7]) (qs (.region [qa 11 (ql (.t 7)),qa 6 (.mov (.t 11))] [6]) .ret)))
theorem c69:fnAt Go.Proofs.Tryz.prog 69 []=some (r69,s69):=by kernel_rfl
def r122:List (Nat×Option (Bool×Nat)):=[]
def s122:SCode:=qs (.region [qa 5 (.boxR 28 (.t 0))] [1,2,3,4,5]) (qs (.region [qa 7 (.fieldA 3 (.t 5)),qa 8 (.fieldA 16 (.t 7)),qa 9 (ql (.t 8)),qa 10 (.bin .eql (.t 9) (.c (.str []))),qa 11 (.mov (.t 10)),qc 12 11 (.fieldA 3 (.t 5)),qc 13 11 (.fieldA 16 (.t 12)),qc 14 11 (ql (.t 13)),qc 15 11 (ql (.t 2)),qc 16 11 (.bin .eql (.t 14) (.t 15)),qa 17 (.pick (.t 11) qt (.t 16)),qa 18 (.mov (.t 17)),qb 19 18 (.mov (.t 1)),qb 20 18 (ql (.t 3)),qb 21 18 (.call (.f 123) [.t 19,.t 20]),qa 22 (.pick (.t 18) (.t 21) qf)] [4,5,22]) (.cond (.t 22) (.region [qa 23 (ql (.t 4)),qa 24 (.load true 28 (.t 5)),qa 25 (.buildS 159 28 1 Zi0 [(0,.t 24)]),qa 26 (.append 159 28 392 (.t 23) (.t 25)),⟨none,none,.store 1 (.t 4) (.t 26)⟩] []) .skip))
theorem c122:fnAt Go.Proofs.Tryz.prog 122 [2000005]=some (r122,s122):=by kernel_rfl
def r179:List (Nat×Option (Bool×Nat)):=[(2,none)]
def s179:SCode:=qs (.region [qa 2 (.mov (.c .nil))] [0]) (qs (.region [qa 3 (.alloc 96 [.nil])] [0,3]) (qs (.region [qa 4 (.mov (.t 0)),qa 5 (.mkfun (.func 215) [] [.t 3]),qa 6 (.call (.f 214) [.t 4,.t 5])] [3]) (qs (.region [qa 7 (ql (.t 3)),qa 8 (.call (.f 216) [.t 7,.f 217])] [3]) (qs (.region [qa 9 (ql (.t 3)),qa 2 (.mov (.t 9))] [2]) .ret))))
theorem c179:fnAt Go.Proofs.Tryz.prog 179 []=some (r179,s179):=by kernel_rfl
def r181:List (Nat×Option (Bool×Nat)):=[(6,none)]
def s181:SCode:=qs (.region [qa 3 (.boxR 3 (.t 0)),qa 4 (.boxR 28 (.t 1)),qa 6 (.mov (.c .nil))] [2,3,4]) (qs (qs (.region [qa 12 (.fieldA 3 (.t 4)),qa 13 (.fieldA 0 (.t 12)),qa 14 (ql (.t 13)),qa 15 (.bin .lss (.t 14) (qi 0)),qa 16 (.mov (.t 15)),qc 17 16 (.fieldA 3 (.t 4)),qc 18 16 (.fieldA 0 (.t 17)),qc 19 16 (ql (.t 18)),qc 20 16 (.bin .gtr (.t 19) (qi 6)),qa 21 (.pick (.t 16) qt (.t 20))] [2,3,4,21]) (.cond (.t 21) (qs (.region [qa 6 (.mov (.c .nil))] [6]) .ret) .skip)) (qs (.region [qa 22 (.load true 3 (.t 3)),qa 23 (.fieldA 3 (.t 4)),qa 24 (.fieldA 17 (.t 23)),qa 25 (.load true 3 (.t 24)),qa 26 (.call (.f 223) [.t 22,.t 25]),qa 27 (.mov (.t 2)),qa 28 (.call (.f 222) [.t 26,.t 27]),qa 7 (.mov (.t 28))] [2,4,7]) (qs (qs (.region [qa 29 (.mov (.t 2)),qa 30 (.len (.t 29)),qa 31 (.mov (qi 0))] [4,7,29,30,31]) (qs (.block 0 (.loop (qs (.region [qa 32 (.bin .lss (.t 31) (.t 30))] [4,7,29,30,31,32]) (qs (.cond (.t 32) .skip (.exit 0)) (qs (qs (.block 1 (qs (.region [qa 33 (.indexA 28 (.t 29) (.t 31)),qa 34 (.load true 28 (.t 33)),qa 9 (.alloc 159 Zi0),⟨none,none,.store 28 (.t 9) (.t 34)⟩] [4,7,9,29,30,31]) (qs (.drawT (.step (qa 37 (.fieldA 3 (.t 9))) (.step (qa 38 (.fieldA 0 (.t 37))) (.both (.step (qa 36 (.call (.f 224) [])) (.step (qa 39 (ql (.t 38))) Zi1)) (.step (qa 39 (ql (.t 38))) (.step (qa 36 (.call (.f 224) [])) Zi1))))) [4,7,9,10,11,29,30,31]) (qs (.region [qa 43 (.mov (.t 11)),qa 44 (.mov (.t 43)),qb 45 44 (.fieldA 3 (.t 9)),qb 46 44 (.load true 25 (.t 45)),qb 47 44 (.fieldA 0 (.t 4)),qb 48 44 (ql (.t 47)),qb 49 44 (.fieldA 1 (.t 4)),qb 50 44 (ql (.t 49)),qb 51 44 (.call (.f 225) [.t 46,.t 48,.t 50]),qa 52 (.pick (.t 44) (.t 51) qf)] [4,7,9,10,29,30,31,52]) (.cond (.t 52) (.region [qa 53 (.mov (.t 10)),qa 54 (.mov (.t 7)),qa 55 (.fieldA 3 (.t 9)),qa 56 (.fieldA 22 (.t 55)),qa 57 (ql (.t 56)),qa 58 (.call (.t 53) [.t 54,.t 57]),qa 7 (.mov (.t 58))] [4,7,29,30,31]) .skip))))) (.region [] [4,7,29,30,31])) (.region [qa 59 (.bin .add (.t 31) (qi 1)),qa 31 (.mov (.t 59))] [4,7,29,30,31])))))) (.region [] [7]))) (qs (.region [qa 60 (.mov (.t 7)),qa 6 (.mov (.t 60))] [6]) .ret))))
theorem c181:fnAt Go.Proofs.Tryz.prog 181 [2000003,2000004]=some (r181,s181):=by kernel_rfl
def r217:List (Nat×Option (Bool×Nat)):=[(4,none)]
def s217:SCode:=qs (.region [qa 2 (.boxR 7 (.t 0)),qa 3 (.boxR 7 (.t 1)),qa 4 (.mov (qi 0))] [2,3]) (qs (.drawL [qa 5 (.fieldA 2 (.t 2)),qa 6 (.loadF false 1 (.t 5)),qa 7 (.fieldA 2 (.t 3)),qa 8 (.loadF false 1 (.t 7)),qa 10 (.fieldA 0 (.t 2)),qa 11 (.loadF false 1 (.t 10)),qa 12 (.fieldA 0 (.t 3)),qa 13 (.loadF false 1 (.t 12)),qa 9 (.call (.f 219) [.t 6,.t 8]),qa 14 (.call (.f 219) [.t 11,.t 13]),qa 15 (.buildS 3 1 2 Zi8 [(0,.t 9),(1,.t 14)]),qa 16 (.call (.f 218) [.t 15]),qa 4 (.mov (.t 16))] [4]) .ret)
theorem c217:fnAt Go.Proofs.Tryz.prog 217 [2000002,2000003]=some (r217,s217):=by kernel_rfl
def r219:List (Nat×Option (Bool×Nat)):=[(4,none)]
def s219:SCode:=qs (.region Zi12 [0,1]) (qs (.region [qa 7 (.mov (.t 0)),qa 8 (.call (.f 264) [.t 7]),qa 5 (.mov (.t 8))] [0,1,5]) (qs (.region [qa 9 (.mov (.t 1)),qa 10 (.call (.f 264) [.t 9]),qa 6 (.mov (.t 10))] [0,1,5,6]) (qs (qs (.region [qa 11 (.mov (.t 5))] [0,1,6,11]) (.cond (.t 11) (qs (qs (.region [qa 12 (.mov (.t 6))] [12]) (.cond (.t 12) (qs (.region Zi12 [4]) .ret) .skip)) Zi7) .skip)) (qs (qs (.region [qa 13 (.mov (.t 6))] [0,1,13]) (.cond (.t 13) Zi13 .skip)) (qs (qs (.region [qa 14 (.mov (.t 0)),qa 15 (.mov (.t 1)),qa 16 (.bin .lss (.t 14) (.t 15))] [0,1,16]) (.cond (.t 16) Zi7 .skip)) (qs (qs (.region [qa 17 (.mov (.t 0)),qa 18 (.mov (.t 1)),qa 19 (.bin .gtr (.t 17) (.t 18))] [19]) (.cond (.t 19) Zi13 .skip)) (qs (.region Zi12 [4]) .ret)))))))
theorem c219:fnAt Go.Proofs.Tryz.prog 219 []=some (r219,s219):=by kernel_rfl
def r221:List (Nat×Option (Bool×Nat)):=[(2,none)]
def s221:SCode:=qs (.region [qa 1 (.boxR 7 (.t 0)),qa 2 (.mov (.c .nil))] [1]) (qs (.region [qa 3 (.mov (.c .nil))] [1,3]) (qs (qs (.region [qa 6 (.fieldA 6 (.t 1)),qa 7 (ql (.t 6)),qa 8 (.len (.t 7)),qa 9 (.mov (qi 0))] [1,3,7,8,9]) (qs (.block 0 (.loop (qs (.region [qa 10 (.bin .lss (.t 9) (.t 8))] [1,3,7,8,9,10]) (qs (.cond (.t 10) .skip (.exit 0)) (qs (qs (.block 1 (qs (.region [qa 11 (.mov (.t 9)),qa 12 (.indexA 25 (.t 7) (.t 9)),qa 13 (.load true 25 (.t 12)),qa 5 (.alloc 61 zItm),qa 4 (.mov (.t 11)),⟨none,none,.store 25 (.t 5) (.t 13)⟩] [1,3,4,5,7,8,9]) (.region [qa 14 (.mov (.t 3)),qa 15 (.fieldA 0 (.t 1)),qa 16 (ql (.t 15)),qa 17 (.mov (.t 4)),qa 18 (.fieldA 2 (.t 1)),qa 19 (ql (.t 18)),qa 20 (.load true 25 (.t 5)),qa 21 (.build Zi0 [(0,(1,.t 16)),(1,(1,.t 17)),(2,(1,.t 19)),(3,(25,.t 20))]),qa 22 (.buildS 159 28 1 Zi0 [(0,.t 21)]),qa 23 (.append 159 28 392 (.t 14) (.t 22)),qa 3 (.mov (.t 23))] [1,3,7,8,9]))) (.region [] [1,3,7,8,9])) (.region [qa 24 (.bin .add (.t 9) (qi 1)),qa 9 (.mov (.t 24))] [1,3,7,8,9])))))) (.region [] [3]))) (qs (.region [qa 25 (.mov (.t 3)),qa 2 (.mov (.t 25))] [2]) .ret)))
theorem c221:fnAt Go.Proofs.Tryz.prog 221 [2000001]=some (r221,s221):=by kernel_rfl
def r223:List (Nat×Option (Bool×Nat)):=[(4,some (true,3))]
def s223:SCode:=qs (.region [qa 2 (.boxR 3 (.t 0)),qa 3 (.boxR 3 (.t 1)),qa 4 (.alloc 59 [.int .i64 0,.int .i64 0,.str []])] [2,3,4]) (qs (qs (.region [qa 5 (.fieldA 0 (.t 3)),qa 6 (ql (.t 5)),qa 7 (.bin .neq (.t 6) (qi 0))] [2,3,4,7]) (.cond (.t 7) (qs (.region [qa 8 (.load true 3 (.t 3)),⟨none,none,.store 3 (.t 4) (.t 8)⟩] [4]) .ret) .skip)) (qs (.region [qa 9 (.load true 3 (.t 2)),⟨none,none,.store 3 (.t 4) (.t 9)⟩] [4]) .ret))
theorem c223:fnAt Go.Proofs.Tryz.prog 223 [2000002,2000003]=some (r223,s223):=by kernel_rfl
def r225:List (Nat×Option (Bool×Nat)):=[(6,none)]
def s225:SCode:=qs (.region [qa 3 (.boxR 25 (.t 0)),qa 6 (.mov qf)] [1,2,3]) (qs (qs (.region [qa 9 (.fieldA 20 (.t 3)),qa 10 (ql (.t 9)),qa 11 (.mov (.t 1)),qa 12 (.bin .neq (.t 10) (.t 11))] [2,3,12]) (.cond (.t 12) Zi9 .skip)) (qs (qs (.region [qa 13 (.fieldA 0 (.t 3)),qa 14 (ql (.t 13)),qa 15 (.bin .eql (.t 14) (qi 11))] [2,3,15]) (.cond (.t 15) (qs (.region [qa 16 (.fieldA 21 (.t 3)),qa 17 (ql (.t 16)),qa 18 (.mov (.t 2)),qa 19 (.bin .eql (.t 17) (.t 18)),qa 6 (.mov (.t 19))] [6]) .ret) .skip)) (qs (.drawL [qa 22 (.fieldA 0 (.t 3)),qa 23 (.loadF false 1 (.t 22)),qa 21 (.call (.f 224) []),qa 24 (.raw (.lookup 249 (.tmp 21) (.tmp 23) true)),qa 20 (.mov (.t 24)),qa 25 (.extract 0 (.t 20)),qa 26 (.extract 1 (.t 20)),qa 7 (.mov (.t 25)),qa 8 (.mov (.t 26))] [2,3,8]) (qs (.region [qa 27 (.mov (.t 8)),qa 28 (.mov (.t 27)),qb 29 28 (.fieldA 21 (.t 3)),qb 30 28 (ql (.t 29)),qb 31 28 (.mov (.t 2)),qb 32 28 (.bin .eql (.t 30) (.t 31)),qb 33 28 (.mov (.t 32)),qc 34 33 (.fieldA 21 (.t 3)),qc 35 33 (ql (.t 34)),qc 36 33 (.bin .eql (.t 35) (qi (-1))),qb 37 28 (.pick (.t 33) qt (.t 36)),qa 38 (.pick (.t 28) (.t 37) qf),qa 6 (.mov (.t 38))] [6]) .ret))))
theorem c225:fnAt Go.Proofs.Tryz.prog 225 [2000003]=some (r225,s225):=by kernel_rfl
def r227:List (Nat×Option (Bool×Nat)):=[(4,none)]
def s227:SCode:=qs (.region [qa 2 (.boxR 2 (.t 0)),qa 4 (.mov (qi 0))] [1,2]) (qs (.region [qa 5 (.fieldA 0 (.t 2)),qa 6 (ql (.t 5)),qa 7 (.mov (.t 1)),qa 8 (.call (.f 219) [.t 6,.t 7]),qa 4 (.mov (.t 8))] [4]) .ret)
theorem c227:fnAt Go.Proofs.Tryz.prog 227 [2000002]=some (r227,s227):=by kernel_rfl
def r263:List (Nat×Option (Bool×Nat)):=[]
def s263:SCode:=qs (.region [qa 6 (.mov (qi 20))] [0,1,2,6]) (qs (.region [qa 10 (.mov (.t 6)),qa 7 (.mov (qi 0)),qa 8 (.mov (.t 10))] [0,1,2,6,7,8]) (qs (qs (.block 0 (.loop (qs (qs (.region [qa 11 (.mov (.t 8)),qa 12 (.mov (.t 1)),qa 13 (.bin .leq (.t 11) (.t 12))] [0,1,2,6,7,8,13]) (.cond (.t 13) .skip (.exit 0))) (qs (.block 1 (qs (.region [qa 14 (.mov (.t 0)),qa 15 (.mov (.t 7)),qa 16 (.mov (.t 8)),qa 17 (.mov (.t 2)),qa 18 (.call (.f 307) [.t 14,.t 15,.t 16,.t 17])] [0,1,2,6,8]) (qs (.region [qa 19 (.mov (.t 8)),qa 7 (.mov (.t 19))] [0,1,2,6,7,8]) (.region [qa 20 (.mov (.t 8)),qa 21 (.mov (.t 6)),qa 22 (.bin .add (.t 20) (.t 21)),qa 8 (.mov (.t 22))] [0,1,2,6,7,8])))) (.region [] [0,1,2,6,7,8]))))) (.region [] [0,1,2,6,7])) (qs (.region [qa 23 (.mov (.t 0)),qa 24 (.mov (.t 7)),qa 25 (.mov (.t 1)),qa 26 (.mov (.t 2)),qa 27 (.call (.f 307) [.t 23,.t 24,.t 25,.t 26])] [0,1,2,6]) (qs (.block 2 (.loop (qs (qs (.region [qa 28 (.mov (.t 6)),qa 29 (.mov (.t 1)),qa 30 (.bin .lss (.t 28) (.t 29))] [0,1,2,6,30]) (.cond (.t 30) .skip (.exit 2))) (qs (.block 3 (qs (.region [qa 31 (.mov (.t 6)),qa 32 (.bin .mul (qi 2) (.t 31)),qa 7 (.mov (qi 0)),qa 8 (.mov (.t 32))] [0,1,2,6,7,8]) (qs (qs (.block 4 (.loop (qs (qs (.region [qa 33 (.mov (.t 8)),qa 34 (.mov (.t 1)),qa 35 (.bin .leq (.t 33) (.t 34))] [0,1,2,6,7,8,35]) (.cond (.t 35) .skip (.exit 4))) (qs (.block 5 (qs (.region [qa 36 (.mov (.t 0)),qa 37 (.mov (.t 7)),qa 38 (.mov (.t 7)),qa 39 (.mov (.t 6)),qa 40 (.bin .add (.t 38) (.t 39)),qa 41 (.mov (.t 8)),qa 42 (.mov (.t 2)),qa 43 (.call (.f 308) [.t 36,.t 37,.t 40,.t 41,.t 42])] [0,1,2,6,8]) (qs (.region [qa 44 (.mov (.t 8)),qa 7 (.mov (.t 44))] [0,1,2,6,7,8]) (.region [qa 45 (.mov (.t 8)),qa 46 (.mov (.t 6)),qa 47 (.bin .mul (qi 2) (.t 46)),qa 48 (.bin .add (.t 45) (.t 47)),qa 8 (.mov (.t 48))] [0,1,2,6,7,8])))) (.region [] [0,1,2,6,7,8]))))) (.region [] [0,1,2,6,7])) (qs (qs (.region [qa 49 (.mov (.t 7)),qa 50 (.mov (.t 6)),qa 51 (.bin .add (.t 49) (.t 50)),qa 9 (.mov (.t 51))] [0,1,2,6,7,9]) (qs (.region [qa 52 (.mov (.t 9)),qa 53 (.mov (.t 1)),qa 54 (.bin .lss (.t 52) (.t 53))] [0,1,2,6,7,9,54]) (.cond (.t 54) (.region [qa 55 (.mov (.t 0)),qa 56 (.mov (.t 7)),qa 57 (.mov (.t 9)),qa 58 (.mov (.t 1)),qa 59 (.mov (.t 2)),qa 60 (.call (.f 308) [.t 55,.t 56,.t 57,.t 58,.t 59])] [0,1,2,6]) .skip))) (.region [qa 61 (.mov (.t 6)),qa 62 (.bin .mul (.t 61) (qi 2)),qa 6 (.mov (.t 62))] [0,1,2,6]))))) (.region [] [0,1,2,6]))))) Zi11))))
theorem c263:fnAt Go.Proofs.Tryz.prog 263 []=some (r263,s263):=by kernel_rfl
def r265:List (Nat×Option (Bool×Nat)):=[(4,none)]
def s265:SCode:=qs Zi10 (qs (.region [qa 5 (.mov (.t 0)),qa 6 (.mov (.t 1)),qa 7 (.call (.f 267) [.t 5,.t 6]),qa 8 (.mov (.t 1)),qa 9 (.build Zi8 [(0,(1,.t 8)),(1,(1,.c (.int .i64 1048577)))]),qa 10 (.buildS 255 2 1 Zi8 [(0,.t 9)]),qa 11 (.call (.f 309) [.t 7,.t 10]),qa 4 (.mov (.t 11))] [4]) .ret)
theorem c265:fnAt Go.Proofs.Tryz.prog 265 []=some (r265,s265):=by kernel_rfl
def r267:List (Nat×Option (Bool×Nat)):=[(4,none)]
def s267:SCode:=qs Zi10 (qs (.region [qa 5 (.mov (.t 0)),qa 6 (.mov (.t 1)),qa 7 (.build Zi8 [(0,(1,.c (.int .i64 0))),(1,(1,.t 6))]),qa 8 (.buildS 255 2 1 Zi8 [(0,.t 7)]),qa 9 (.call (.f 312) [.t 5,.t 8]),qa 4 (.mov (.t 9))] [4]) .ret)
theorem c267:fnAt Go.Proofs.Tryz.prog 267 []=some (r267,s267):=by kernel_rfl
def r308:List (Nat×Option (Bool×Nat)):=[]
def s308:SCode:=qs (qs (.region [qa 25 (.mov (.t 2)),qa 26 (.mov (.t 1)),qa 27 (.bin .sub (.t 25) (.t 26)),qa 28 (.bin .eql (.t 27) (qi 1))] [0,1,2,3,4,28]) (.cond (.t 28) (qs (.region [qa 29 (.mov (.t 2)),qa 10 (.mov (.t 29))] [0,1,3,4,10]) (qs (.region [qa 30 (.mov (.t 3)),qa 11 (.mov (.t 30))] [0,1,4,10,11]) (qs (qs (.block 0 (.loop (qs (qs (.region [qa 31 (.mov (.t 10)),qa 32 (.mov (.t 11)),qa 33 (.bin .lss (.t 31) (.t 32))] [0,1,4,10,11,33]) (.cond (.t 33) .skip (.exit 0))) (qs (.block 1 (qs (.region [qa 34 (.mov (.t 10)),qa 35 (.mov (.t 11)),qa 36 (.bin .add (.t 34) (.t 35)),qa 37 (.conv .u64 (.t 36)),qa 38 (.raw (.binOp .shr 287 (.tmp 37) (.const (.int .u64 1)) 287)),qa 39 (.conv .i64 (.t 38)),qa 12 (.mov (.t 39))] [0,1,4,10,11,12]) (qs (.drawT (.step (qa 40 (.mov (.t 4))) (.step (qa 41 (.mov (.t 0))) (.step (qa 42 (.mov (.t 12))) (.step (qa 43 (.indexA 7 (.t 41) (.t 42))) (.step (qa 45 (.mov (.t 0))) (.step (qa 46 (.mov (.t 1))) (.step (qa 47 (.indexA 7 (.t 45) (.t 46))) (.both (.step (qa 44 (.load true 7 (.t 43))) (.step (qa 48 (.load true 7 (.t 47))) Zi6)) (.step (qa 48 (.load true 7 (.t 47))) (.step (qa 44 (.load true 7 (.t 43))) Zi6)))))))))) [0,1,4,10,11,12,50]) (.cond (.t 50) (.region [qa 51 (.mov (.t 12)),qa 52 (.bin .add (.t 51) (qi 1)),qa 10 (.mov (.t 52))] [0,1,4,10,11]) (.region [qa 53 (.mov (.t 12)),qa 11 (.mov (.t 53))] [0,1,4,10,11]))))) (.region [] [0,1,4,10,11]))))) (.region [] [0,1,10])) (qs (qs (.region [qa 54 (.mov (.t 1)),qa 13 (.mov (.t 54))] [0,10,13]) (qs (.block 2 (.loop (qs (qs (.region [qa 55 (.mov (.t 13)),qa 56 (.mov (.t 10)),qa 57 (.bin .sub (.t 56) (qi 1)),qa 58 (.bin .lss (.t 55) (.t 57))] [0,10,13,58]) (.cond (.t 58) .skip (.exit 2))) (qs (qs (.block 3 (.drawT (.step (qa 61 (.mov (.t 0))) (.step (qa 62 (.mov (.t 13))) (.step (qa 63 (.mov (.t 0))) (.step (qa 64 (.mov (.t 13))) (.step (qa 65 (.bin .add (.t 64) (qi 1))) (.step (qa 66 (.mov (.t 0))) (.step (qa 67 (.mov (.t 13))) (.step (qa 68 (.bin .add (.t 67) (qi 1))) (.step (qa 69 (.indexA 7 (.t 66) (.t 68))) (.step (qa 71 (.mov (.t 0))) (.step (qa 72 (.mov (.t 13))) (.step (qa 73 (.indexA 7 (.t 71) (.t 72))) (.both (.step (qa 70 (.load true 7 (.t 69))) (.step (qa 74 (.load true 7 (.t 73))) Zi3)) (.step (qa 74 (.load true 7 (.t 73))) (.step (qa 70 (.load true 7 (.t 69))) Zi3))))))))))))))) [0,10,13])) (.region [] [0,10,13])) (.region [qa 59 (.mov (.t 13)),qa 60 (.bin .add (.t 59) (qi 1)),qa 13 (.mov (.t 60))] [0,10,13]))))) Zi11)) .ret)))) .skip)) (qs (qs (.region [qa 77 (.mov (.t 3)),qa 78 (.mov (.t 2)),qa 79 (.bin .sub (.t 77) (.t 78)),qa 80 (.bin .eql (.t 79) (qi 1))] [0,1,2,3,4,80]) (.cond (.t 80) (qs (.region [qa 81 (.mov (.t 1)),qa 14 (.mov (.t 81))] [0,2,4,14]) (qs (.region [qa 82 (.mov (.t 2)),qa 15 (.mov (.t 82))] [0,2,4,14,15]) (qs (qs (.block 4 (.loop (qs (qs (.region [qa 83 (.mov (.t 14)),qa 84 (.mov (.t 15)),qa 85 (.bin .lss (.t 83) (.t 84))] [0,2,4,14,15,85]) (.cond (.t 85) .skip (.exit 4))) (qs (.block 5 (qs (.region [qa 86 (.mov (.t 14)),qa 87 (.mov (.t 15)),qa 88 (.bin .add (.t 86) (.t 87)),qa 89 (.conv .u64 (.t 88)),qa 90 (.raw (.binOp .shr 287 (.tmp 89) (.const (.int .u64 1)) 287)),qa 91 (.conv .i64 (.t 90)),qa 16 (.mov (.t 91))] [0,2,4,14,15,16]) (qs (.drawT (.step (qa 92 (.mov (.t 4))) (.step (qa 93 (.mov (.t 0))) (.step (qa 94 (.mov (.t 2))) (.step (qa 95 (.indexA 7 (.t 93) (.t 94))) (.step (qa 97 (.mov (.t 0))) (.step (qa 98 (.mov (.t 16))) (.step (qa 99 (.indexA 7 (.t 97) (.t 98))) (.both (.step (qa 96 (.load true 7 (.t 95))) (.step (qa 100 (.load true 7 (.t 99))) Zi5)) (.step (qa 100 (.load true 7 (.t 99))) (.step (qa 96 (.load true 7 (.t 95))) Zi5)))))))))) [0,2,4,14,15,16,103]) (.cond (.t 103) (.region [qa 104 (.mov (.t 16)),qa 105 (.bin .add (.t 104) (qi 1)),qa 14 (.mov (.t 105))] [0,2,4,14,15]) (.region [qa 106 (.mov (.t 16)),qa 15 (.mov (.t 106))] [0,2,4,14,15]))))) (.region [] [0,2,4,14,15]))))) (.region [] [0,2,14])) (qs (qs (.region [qa 107 (.mov (.t 2)),qa 17 (.mov (.t 107))] [0,14,17]) (qs (.block 6 (.loop (qs (qs (.region [qa 108 (.mov (.t 17)),qa 109 (.mov (.t 14)),qa 110 (.bin .gtr (.t 108) (.t 109))] [0,14,17,110]) (.cond (.t 110) .skip (.exit 6))) (qs (qs (.block 7 (.drawT (.step (qa 113 (.mov (.t 0))) (.step (qa 114 (.mov (.t 17))) (.step (qa 115 (.mov (.t 0))) (.step (qa 116 (.mov (.t 17))) (.step (qa 117 (.bin .sub (.t 116) (qi 1))) (.step (qa 118 (.mov (.t 0))) (.step (qa 119 (.mov (.t 17))) (.step (qa 120 (.bin .sub (.t 119) (qi 1))) (.step (qa 121 (.indexA 7 (.t 118) (.t 120))) (.step (qa 123 (.mov (.t 0))) (.step (qa 124 (.mov (.t 17))) (.step (qa 125 (.indexA 7 (.t 123) (.t 124))) (.both (.step (qa 122 (.load true 7 (.t 121))) (.step (qa 126 (.load true 7 (.t 125))) Zi2)) (.step (qa 126 (.load true 7 (.t 125))) (.step (qa 122 (.load true 7 (.t 121))) Zi2))))))))))))))) [0,14,17])) (.region [] [0,14,17])) (.region [qa 111 (.mov (.t 17)),qa 112 (.bin .sub (.t 111) (qi 1)),qa 17 (.mov (.t 112))] [0,14,17]))))) Zi11)) .ret)))) .skip)) (qs (.region [qa 129 (.mov (.t 1)),qa 130 (.mov (.t 3)),qa 131 (.bin .add (.t 129) (.t 130)),qa 132 (.conv .u64 (.t 131)),qa 133 (.raw (.binOp .shr 287 (.tmp 132) (.const (.int .u64 1)) 287)),qa 134 (.conv .i64 (.t 133)),qa 18 (.mov (.t 134))] [0,1,2,3,4,18]) (qs (.region [qa 135 (.mov (.t 18)),qa 136 (.mov (.t 2)),qa 137 (.bin .add (.t 135) (.t 136)),qa 19 (.mov (.t 137))] [0,1,2,3,4,18,19]) (qs (.region [qa 20 (.mov (qi 0)),qa 21 (.mov (qi 0))] [0,1,2,3,4,18,19]) (qs (qs (.region [qa 138 (.mov (.t 2)),qa 139 (.mov (.t 18)),qa 140 (.bin .gtr (.t 138) (.t 139))] [0,1,2,3,4,18,19,140]) (.cond (.t 140) (qs (.region [qa 141 (.mov (.t 19)),qa 142 (.mov (.t 3)),qa 143 (.bin .sub (.t 141) (.t 142)),qa 20 (.mov (.t 143))] [0,1,2,3,4,18,19,20]) (.region [qa 144 (.mov (.t 18)),qa 21 (.mov (.t 144))] [0,1,2,3,4,18,19,20,21])) (qs (.region [qa 145 (.mov (.t 1)),qa 20 (.mov (.t 145))] [0,1,2,3,4,18,19,20]) (.region [qa 146 (.mov (.t 2)),qa 21 (.mov (.t 146))] [0,1,2,3,4,18,19,20,21])))) (qs (.region [qa 147 (.mov (.t 19)),qa 148 (.bin .sub (.t 147) (qi 1)),qa 22 (.mov (.t 148))] [0,1,2,3,4,18,19,20,21,22]) (qs (qs (.block 8 (.loop (qs (qs (.region [qa 149 (.mov (.t 20)),qa 150 (.mov (.t 21)),qa 151 (.bin .lss (.t 149) (.t 150))] [0,1,2,3,4,18,19,20,21,22,151]) (.cond (.t 151) .skip (.exit 8))) (qs (.block 9 (qs (.region [qa 152 (.mov (.t 20)),qa 153 (.mov (.t 21)),qa 154 (.bin .add (.t 152) (.t 153)),qa 155 (.conv .u64 (.t 154)),qa 156 (.raw (.binOp .shr 287 (.tmp 155) (.const (.int .u64 1)) 287)),qa 157 (.conv .i64 (.t 156)),qa 23 (.mov (.t 157))] [0,1,2,3,4,18,19,20,21,22,23]) (qs (.drawT (.step (qa 158 (.mov (.t 4))) (.step (qa 159 (.mov (.t 0))) (.step (qa 160 (.mov (.t 22))) (.step (qa 161 (.mov (.t 23))) (.step (qa 162 (.bin .sub (.t 160) (.t 161))) (.step (qa 163 (.indexA 7 (.t 159) (.t 162))) (.step (qa 165 (.mov (.t 0))) (.step (qa 166 (.mov (.t 23))) (.step (qa 167 (.indexA 7 (.t 165) (.t 166))) (.both (.step (qa 164 (.load true 7 (.t 163))) (.step (qa 168 (.load true 7 (.t 167))) Zi4)) (.step (qa 168 (.load true 7 (.t 167))) (.step (qa 164 (.load true 7 (.t 163))) Zi4)))))))))))) [0,1,2,3,4,18,19,20,21,22,23,171]) (.cond (.t 171) (.region [qa 172 (.mov (.t 23)),qa 173 (.bin .add (.t 172) (qi 1)),qa 20 (.mov (.t 173))] [0,1,2,3,4,18,19,20,21,22]) (.region [qa 174 (.mov (.t 23)),qa 21 (.mov (.t 174))] [0,1,2,3,4,18,19,20,21,22]))))) (.region [] [0,1,2,3,4,18,19,20,21,22]))))) (.region [] [0,1,2,3,4,18,19,20])) (qs (.region [qa 175 (.mov (.t 19)),qa 176 (.mov (.t 20)),qa 177 (.bin .sub (.t 175) (.t 176)),qa 24 (.mov (.t 177))] [0,1,2,3,4,18,20,24]) (qs (qs (.region [qa 178 (.mov (.t 20)),qa 179 (.mov (.t 2)),qa 180 (.bin .lss (.t 178) (.t 179)),qa 181 (.mov (.t 180)),qb 182 181 (.mov (.t 2)),qb 183 181 (.mov (.t 24)),qb 184 181 (.bin .lss (.t 182) (.t 183)),qa 185 (.pick (.t 181) (.t 184) qf)] [0,1,2,3,4,18,20,24,185]) (.cond (.t 185) (.region [qa 186 (.mov (.t 0)),qa 187 (.mov (.t 20)),qa 188 (.mov (.t 2)),qa 189 (.mov (.t 24)),qa 190 (.mov (.t 4)),qa 191 (.call (.f 354) [.t 186,.t 187,.t 188,.t 189,.t 190])] [0,1,3,4,18,20,24]) .skip)) (qs (qs (.region [qa 192 (.mov (.t 1)),qa 193 (.mov (.t 20)),qa 194 (.bin .lss (.t 192) (.t 193)),qa 195 (.mov (.t 194)),qb 196 195 (.mov (.t 20)),qb 197 195 (.mov (.t 18)),qb 198 195 (.bin .lss (.t 196) (.t 197)),qa 199 (.pick (.t 195) (.t 198) qf)] [0,1,3,4,18,20,24,199]) (.cond (.t 199) (.region [qa 200 (.mov (.t 0)),qa 201 (.mov (.t 1)),qa 202 (.mov (.t 20)),qa 203 (.mov (.t 18)),qa 204 (.mov (.t 4)),qa 205 (.call (.f 308) [.t 200,.t 201,.t 202,.t 203,.t 204])] [0,3,4,18,24]) .skip)) (qs (.region [qa 206 (.mov (.t 18)),qa 207 (.mov (.t 24)),qa 208 (.bin .lss (.t 206) (.t 207)),qa 209 (.mov (.t 208)),qb 210 209 (.mov (.t 24)),qb 211 209 (.mov (.t 3)),qb 212 209 (.bin .lss (.t 210) (.t 211)),qa 213 (.pick (.t 209) (.t 212) qf)] [0,3,4,18,24,213]) (.cond (.t 213) (.region [qa 214 (.mov (.t 0)),qa 215 (.mov (.t 18)),qa 216 (.mov (.t 24)),qa 217 (.mov (.t 3)),qa 218 (.mov (.t 4)),qa 219 (.call (.f 308) [.t 214,.t 215,.t 216,.t 217,.t 218])] []) .skip))))))))))))
theorem c308:fnAt Go.Proofs.Tryz.prog 308 []=some (r308,s308):=by kernel_rfl
def r310:List (Nat×Option (Bool×Nat)):=[(4,none)]
def s310:SCode:=qs (.region Zi12 [0,1]) (qs (qs (.region [qa 6 (.mov (.t 0)),qa 7 (.len (.t 6)),qa 8 (.mov (qi 0))] [0,1,7,8]) (qs (.block 0 (.loop (qs (.region [qa 9 (.bin .lss (.t 8) (.t 7))] [0,1,7,8,9]) (qs (.cond (.t 9) .skip (.exit 0)) (qs (qs (.block 1 (qs (.region [qa 10 (.mov (.t 8)),qa 5 (.mov (.t 10))] [0,1,5,7,8]) (qs (.region [qa 11 (.mov (.t 1)),qa 12 (.mov (.t 0)),qa 13 (.mov (.t 5)),qa 14 (.indexA 28 (.t 12) (.t 13)),qa 15 (.load true 28 (.t 14)),qa 16 (.call (.t 11) [.t 15])] [0,1,5,7,8,16]) (.cond (.t 16) (qs (.region [qa 17 (.mov (.t 5)),qa 4 (.mov (.t 17))] [4]) .ret) .skip)))) (.region [] [0,1,7,8])) (.region [qa 18 (.bin .add (.t 8) (qi 1)),qa 8 (.mov (.t 18))] [0,1,7,8])))))) Zi11)) Zi7)
theorem c310:fnAt Go.Proofs.Tryz.prog 310 []=some (r310,s310):=by kernel_rfl
def r312:List (Nat×Option (Bool×Nat)):=[(4,none)]
def s312:SCode:=qs Zi10 (qs (.region [qa 5 (.mov (.t 0)),qa 6 (.mov (.t 1)),qa 7 (.call (.f 355) [.t 5,.t 6,.f 357]),qa 4 (.mov (.t 7))] [4]) .ret)
theorem c312:fnAt Go.Proofs.Tryz.prog 312 []=some (r312,s312):=by kernel_rfl
def r357:List (Nat×Option (Bool×Nat)):=[(4,none)]
def s357:SCode:=qs (.region [qa 4 (.mov qf)] [0,1]) (qs (.region [qa 5 (.mov (.t 0)),qa 6 (.mov (.t 5)),qb 7 6 (.mov (.t 1)),qa 8 (.pick (.t 6) (.t 7) qf),qa 4 (.mov (.t 8))] [4]) .ret)
theorem c357:fnAt Go.Proofs.Tryz.prog 357 []=some (r357,s357):=by kernel_rfl
end Go.Av
