/-
  OPENING, T: what handed gazettes stand for.
-/
import Derived.Test.YtjdccoplpljmlaaGreatDoorVXOpItoXCY1
import Derived.Test.YtjdccoplpljmlaaGreatDoorVXY17toXY20
import Derived.Test.YtjdccoplpljmlaaGreatDoorVXL35toXM9
import Derived.Test.YtjdccoplpljmlaaGreatDoorVXE10toXE13
import Derived.Test.YtjdccoplpljmlaaGreatDoorVXL18toXL21
import Derived.Test.YtjdccoplpljmlaaGreatDoorVXCY3toXY9
import Derived.Test.YtjdccoplpljmlaaGreatDoorVShelf
namespace Go.Av
open Go Go.RowKit Go.Proofs List
set_option linter.unusedSimpArgs false
set_option linter.unusedVariables false
theorem open_actF {n:Nat} {a:List AV} (h:Shp Tryz.prog reachBytes n 100 a):∃x:Ac,a=x.cs/\x.fit:=by
 obtain⟨m,rfl,g⟩:=cd Tryz.underlying100 h
 clear h
 simp only[toL,ShpF]at g
 obtain⟨O,Z,rfl,E,T,b2,rfl,F,V,b3,rfl,I,X,b4,rfl,J,Y,b5,rfl,M,rfl⟩:=g
 obtain⟨k,rfl⟩:=bA Tryz.underlying3 E
 obtain⟨s,_,rfl⟩:=dD Tryz.underlying9 F
 obtain⟨d,rfl⟩:=bA Tryz.underlying3 I
 obtain⟨t,rfl,_⟩:=kr J
 obtain⟨l,rfl,q,p⟩:=cT (f:=Itm.cs) (q:=Itm.fit) (sz:=25) Tryz.underlying41 (by kernel_rfl) (λm' hm r N=>open_item m' r N) M
 exact⟨⟨k,s,d,t,l⟩,rfl,dv q,p⟩
theorem open_gz {n:Nat} {a:List AV} (h:Shp Tryz.prog reachBytes n 98 a):∃x:Gz,a=x.cs/\x.fit:=by
 obtain⟨m,rfl,g⟩:=cd Tryz.underlying98 h
 clear h
 simp only[toL,ShpF]at g
 obtain⟨N,X,rfl,E,O,Y,rfl,F,T,Z,rfl,I,V,b4,rfl,J,rfl⟩:=g
 obtain⟨k,rfl⟩:=bA Tryz.underlying3 E
 obtain⟨d,rfl⟩:=bA Tryz.underlying3 F
 obtain⟨s,_,rfl⟩:=dD Tryz.underlying9 I
 obtain⟨l,rfl,q,p⟩:=cT (f:=Ac.cs) (q:=Ac.fit) (sz:=7) Tryz.underlying96 (by kernel_rfl) (λm' hm r M=>open_actF M) J
 exact⟨⟨k,d,s,l⟩,rfl,dv q,p⟩
theorem open_gzs {n:Nat} {a:List AV} (h:Shp Tryz.prog reachBytes n 22 a):∃l:List Gz,a=[.lst 4 (l.map Gz.cs)]/\Big l.length/\∀g∈l,g.fit:=by
 obtain⟨l,E,F,I⟩:=cT (f:=Gz.cs) (q:=Gz.fit) (sz:=4) Tryz.underlying22 (by kernel_rfl) (λm _ r J=>open_gz J) h
 exact⟨l,E,dv F,I⟩
abbrev K5:=Idd×Int×List UInt8×List Wd×List Wd
def U.k5 (y:U):K5:=(y.id,y.kind,y.label,y.head,y.words)
def U.all5 (u:U):List K5:=u.flat.map U.k5
def U.alls5 (us:List U):List K5:=(U.flats us).map U.k5
theorem U.all5_eq (u:U):u.all5=u.k5::U.alls5 u.kids:=by unfold U.all5 U.alls5;rw[U.flat_eq];rfl
theorem U.alls5_nil:U.alls5 []=[]:=by unfold U.alls5;rw[bl];rfl
theorem U.alls5_cons (u:U) (us:List U):U.alls5 (u::us)=u.all5++U.alls5 us:=by unfold U.alls5 U.all5;rw[aG,map_append]
theorem U.alls5_app (a b:List U):U.alls5 (a++b)=U.alls5 a++U.alls5 b:=by unfold U.alls5;rw[cG,map_append]
theorem k5_wth {i:Idd} {f:U->U} (u:U) (E:u.ids.Nodup) (hi:i∈u.ids):∃l r,u.all5=l++((fnd i u).all5++r)/\(U.wth i f u).all5=l++((f (fnd i u)).all5++r):=by
 refine U.wayInd (i:=i) (p:=λu=>∃l r,u.all5=l++((fnd i u).all5++r)/\(U.wth i f u).all5=l++((f (fnd i u)).all5++r)) ?_ ?_ u E hi
 ·intro u _ h
  have e:fnd i u=u:=aQ (by rw[aV h];rfl)
  refine⟨[],[],?_,?_⟩
  ·rw[e];simp
  ·rw[cC h,e];simp
 ·intro u a k b E h s ⟨l,r,e1,e2⟩
  rw[s.fnd E s.mem]
  refine⟨u.k5::(U.alls5 a++l),r++U.alls5 b,?_,?_⟩
  ·rw[U.all5_eq,s.eq,U.alls5_app,U.alls5_cons,e1];simp[append_assoc]
  ·rw[s.wth h,U.all5_eq,show({u with kids:=a++U.wth i f k::b}:U).k5=u.k5 from rfl]
   simp only
   rw[U.alls5_app,U.alls5_cons,e2];simp[append_assoc]
theorem k5_ins {u:U} (I:u.ids.Nodup) {q:Idd} (J:q∈u.ids) (k:Nat) (x:U):∃A B,u.all5=A++B/\(U.wth q (λy=>{y with kids:=bL y.kids k x}) u).all5=A++(x.all5++B):=by
 obtain⟨l,r,E,F⟩:=k5_wth (f:=λy=>{y with kids:=bL y.kids k x}) u I J
 refine⟨l++((fnd q u).k5::U.alls5 ((fnd q u).kids.take k)),U.alls5 ((fnd q u).kids.drop k)++r,?_,?_⟩
 ·rw[E,U.all5_eq]
  conv=>lhs;rw[←take_append_drop k (fnd q u).kids]
  rw[U.alls5_app];simp[append_assoc]
 ·rw[F,U.all5_eq,show({fnd q u with kids:=bL (fnd q u).kids k x}:U).k5=(fnd q u).k5 from rfl]
  unfold bL
  simp only
  rw[U.alls5_app,U.alls5_cons];simp[append_assoc]
theorem k5_del {u:U} (N:u.ids.Nodup) {i:Idd} (hi:i∈u.ids) (I:u.id≠i):∃A B,u.all5=A++((fnd i u).all5++B)/\(aL i u).all5=A++B:=by
 obtain⟨own,d,j,X,w2,J⟩:=cg N hi I
 obtain⟨a,x,b,s,Y,T,V⟩:=J.split
 have F:fnd i u=x:=aQ V
 subst T
 have O:aL i u=U.wth own.id (λy=>{y with kids:=cx y.kids a.length}) u:=by unfold aL;rw[X]
 rw[O,F]
 obtain⟨l,r,M,E⟩:=k5_wth (f:=λy=>{y with kids:=cx y.kids a.length}) u N J.mem
 rw[J.fnd]at M E
 rw[s.eq,cz]at E
 refine⟨l++(own.k5::U.alls5 a),U.alls5 b++r,?_,?_⟩
 ·rw[M,U.all5_eq,s.eq,U.alls5_app,U.alls5_cons];simp[append_assoc]
 ·rw[E,U.all5_eq,show({own with kids:=a++b}:U).k5=own.k5 from rfl]
  simp only
  rw[U.alls5_app];simp[append_assoc]
theorem kd {u:U} (J:u.ids.Nodup) {i:Idd} (hi:i∈u.ids) {f:U->U} (I:∀y,(f y).kids=y.kids):∃A B,u.all5=A++((fnd i u).k5::B)/\(U.wth i f u).all5=A++((f (fnd i u)).k5::B):=by
 obtain⟨l,r,E,F⟩:=k5_wth (f:=f) u J hi
 refine⟨l,U.alls5 (fnd i u).kids++r,?_,?_⟩
 ·rw[E,U.all5_eq];simp
 ·rw[F,U.all5_eq,I];simp
/-! ### an item that fails changes nothing -/
theorem insP_err {u:U} {i:Idd} {d:Dd} (h:(insP u i d).2≠0):(insP u i d).1=u:=by
 unfold insP at h ⊢
 (repeat' split)<;>(try rfl)
 all_goals(exfalso;simp_all)
theorem movP_err {u:U} {i t:Idd} {d:Dd} (h:(movP u i t d).2≠0):(movP u i t d).1=u:=by
 unfold movP at h ⊢
 (repeat' split)<;>(try rfl)
 all_goals(exfalso;simp_all)
theorem doP_err {u:U} {d:Dd} (h:(doP u d).2≠0):(doP u d).1=u:=by
 unfold doP at h ⊢
 split
 ·rfl
 rename_i c1
 rw[if_neg c1]at h
 split
 ·rfl
 rename_i c2
 rw[if_neg c2]at h
 split
 ·rename_i c3
  rw[if_pos c3]at h
  exact insP_err h
 rename_i c3
 rw[if_neg c3]at h
 split
 ·split<;>rfl
 rename_i c4
 rw[if_neg c4]at h
 split
 ·rename_i c5
  rw[if_pos c5]at h;exact absurd rfl h
 rename_i c5
 rw[if_neg c5]at h
 split
 ·rename_i c6
  rw[if_pos c6]at h
  split
  ·rfl
  ·rename_i c7;rw[if_neg c7]at h;exact absurd rfl h
 rename_i c6
 rw[if_neg c6]at h
 split
 ·rename_i c7
  rw[if_pos c7]at h;exact absurd rfl h
 rename_i c7
 rw[if_neg c7]at h
 split
 ·rename_i c8
  rw[if_pos c8]at h
  split
  ·rfl
  ·rename_i c9;rw[if_neg c9]at h;exact absurd rfl h
 rename_i c8
 rw[if_neg c8]at h
 split
 ·rfl
 rename_i c9
 rw[if_neg c9]at h
 exact movP_err h
structure Ms where
 act:Int
 item:Int
 why:Int
 deriving DecidableEq,Inhabited
def Ms.cs (m:Ms):List AV:=[.int .i64 m.act,.int .i64 m.item,.int .i64 m.why]
def missOf (d:Dd) (e:Int):List Ms:=if e=0 then []else [⟨d.act,d.item,e⟩]
def fv (u:U) (d:Dd):U×List Ms:=if chg d.it.kind=false then (u,[])else ((doP u d).1,missOf d (doP u d).2)
def allP:U->List Dd->U×List Ms
 |u,[]=>(u,[])
 |u,d::l=>((allP (fv u d).1 l).1,(fv u d).2++(allP (fv u d).1 l).2)
theorem lO (u:U) (d:Dd) (l:List Dd):allP u (d::l)=((allP (fv u d).1 l).1,(fv u d).2++(allP (fv u d).1 l).2):=rfl
theorem iQ {u:U} (h:Good u) (d:Dd):Good (fv u d).1/\Root u (fv u d).1:=by
 unfold fv
 split
 ·exact⟨h,Root.refl u⟩
 ·exact do_good h d
theorem jZ:∀{l:List Dd} {u:U},Good u->Good (allP u l).1/\Root u (allP u l).1
 |[],u,h=>⟨h,Root.refl u⟩
 |d::l,u,h=>by
  obtain⟨E,F⟩:=iQ h d
  obtain⟨I,J⟩:=jZ (l:=l) E
  exact⟨I,F.trans J⟩
/-! ### the document's words for the same -/
/-! ### sizes -/
def wt5 (k:K5):Nat:=1+k.2.2.2.2.length / 50+k.2.2.2.1.length / 50+k.2.2.1.length / 50
def wtL (L:List K5):Nat:=(L.map wt5).sum
theorem wtL_nil:wtL []=0:=rfl
theorem fK (k:K5) (L:List K5):wtL (k::L)=wt5 k+wtL L:=by simp[wtL]
theorem bM (A B:List K5):wtL (A++B)=wtL A+wtL B:=by simp[wtL]
theorem stamp_wt (a b:Int):∀(u:U) (n m:Int),wtL (U.stamp a b u n m).1.all5=wtL u.all5:=by
 refine U.ind λu ih n m=>?_
 have h:∀(us:List U),(∀k∈us,∀n m,wtL (U.stamp a b k n m).1.all5=wtL k.all5)->∀n m,wtL (U.alls5 (U.stamps a b us n m).1)=wtL (U.alls5 us):=by
  intro us
  induction us with
  |nil=>intro _ n m;rw[U.stamps_nil]
  |cons x us ihu=>
   intro h n m
   rw[U.stamps_cons]
   simp only
   rw[U.alls5_cons,U.alls5_cons,bM,bM,h x (by simp),ihu (λk E=>h k (by simp[E]))]
 rw[U.stamp_eq,U.all5_eq,U.all5_eq u,fK,fK]
 simp only
 rw[h u.kids ih]
 congr 1
 simp[wt5,U.k5,cF]
theorem all5_node {v:U} {k:K5} (E:k∈v.all5):∃y∈v.flat,y.k5=k:=mem_map.1 E
theorem wt5_node {v:U} (h:Good v) {k:K5} (E:k∈v.all5):wt5 k<=11:=by
 obtain⟨y,F,rfl⟩:=all5_node E
 have s:=dJ (h.node y F)
 have I:=s.label
 have J:=s.head.1
 have M:=s.words.1
 simp only[wt5,U.k5]
 omega
theorem gY {u:U} (h:Good u):cv u=true:=by
 unfold cv
 simp only[Bool.and_eq_true,decide_eq_true_eq]
 refine⟨all_eq_true.2 h.node,by have:=h.dep;unfold U.dep;omega,by have:=h.cnt;unfold U.cnt;omega,?_⟩
 unfold idsOk
 rw[Bool.or_eq_true,Bool.and_eq_true,decide_eq_true_eq,decide_eq_true_eq]
 refine .inr ⟨?_,h.nd⟩
 rw[decide_eq_decide]
 exact h.root.symm
/-! ### from nothing -/
def fg:U:=⟨zId,0,[],[],[],[]⟩
theorem kE:Good fg:=by
 have E:fg.flat=[fg]:=by rw[U.flat_eq];show fg::U.flats []=_;rw[bl]
 refine⟨?_,?_,?_,?_,⟨λ_=>rfl,λ_=>rfl⟩,λh=>absurd rfl h⟩
 ·unfold U.ids;rw[E];simp
 ·rw[E]
  intro y F
  simp only[mem_singleton]at F
  subst F
  decide
 ·rw[U.deep_eq];show U.deeps []<=8;rw[U.deeps];omega
 ·rw[E];simp
theorem wt5_k (u:U):wt5 u.k5=1+u.words.length / 50+u.head.length / 50+u.label.length / 50:=rfl
theorem wtL_all (u:U):wtL u.all5=wt5 u.k5+wtL (U.alls5 u.kids):=by rw[U.all5_eq,fK]
def idsB (u:U):Bool:=decide u.ids.Nodup&&(!decide (zId∈u.ids)||decide (u.kind=0))
theorem lX {H:Type} {enc:TypeId×Value->H} {P:Program} {w:World} {S:List TypeId} (M:closedT P S=true) {t:TypeId} (X:t∈S) {a:Option Addr} {len cap:Nat} {d:DataW H} {ps:List MemPlace}
  (O:DataW.Trod enc P w 0 (λ_=>true) true t (.slice a len cap) d ps) (Y:∀n∈d.weights P t,n<=reachBytes):∃fuel x,Shp P reachBytes fuel t [x]/\Rep [] w x (.slice a len cap):=by
 obtain⟨fuel,V⟩:=O
 obtain⟨hl,E,s,r,o⟩:=kb M fuel t _ _ X V Y
 have N:Value.cells (.slice a len cap)=#[.slice a len cap]:=by simp[Value.cells]
 rw[N]at r
 cases E with
 |nil=>simp[RepL]at r
 |cons x xs=>
  simp only[RepL]at r
  obtain⟨u,us,T,J,I⟩:=r
  injection T with e1 e2
  subst e1 e2
  cases xs with
  |nil=>exact⟨fuel,x,s,J⟩
  |cons y ys=>
   simp only[RepL]at I
   obtain⟨u',Z,F,_⟩:=I
   cases F
end Go.Av
namespace Go.Av
open Go Go.RowKit Go.Proofs Go.Sort List
set_option linter.unusedSimpArgs false
set_option linter.unusedVariables false
def encS (x:Int×Int):List Value:=[.int .i64 x.1,.int .i64 x.2]
def cfS (x y:Int×Int):Int:=Lib.compareInt x.1 y.1
theorem ltS (x y:Int×Int):ltOf cfS x y=decide (x.1<y.1):=by
 unfold ltOf cfS Lib.compareInt
 by_cases E:x.1<y.1
 ·simp[E]
 ·by_cases F:y.1<x.1<;>simp[E,F]
theorem swoS:SWO (ltOf cfS):=by
 refine⟨λx=>?_,λx y z E F=>?_,λx y z E F=>?_⟩
 ·rw[ltS];simp
 ·rw[ltS]at*;simp at*;omega
 ·rw[ltS]at*;simp at*;omega
set_option maxHeartbeats 1000000 in
theorem closS (x y:Int×Int) (W:World):Calls Tryz.prog 229 #[.agg #[.int .i64 x.1,.int .i64 x.2],.agg #[.int .i64 y.1,.int .i64 y.2]] W λe w'=>e= .returned (.int .i64 (Lib.compareInt x.1 y.1))/\∃q F,w'=grow (W.drewN q) F:=by
 have E:=λW'=>Tryz.cmp_Compare_int x.1 y.1 W'
 generalize Lib.compareInt x.1 y.1=r at E ⊢
 go_enter Tryz.func229,Tryz.ntmps229
 go_wp2_with (go_at_call 219;refine(E _).mono ?_;rintro e w' ⟨rfl,rfl⟩)
 go_ret
 exact⟨rfl,0,_,by rw[alloc_eq_grow,alloc_eq_grow,grow_grow];rfl⟩
theorem cmpLaysS (E off size:Nat) (w:World):CmpLays Tryz.prog 229 #[] encS 2 cfS E off size w:=λ_ _ _ _ x y=>closS x y _
def ir (ps:List (Int×Int)):List Value:=(ps.map encS).flatten
theorem ei (p:Int×Int) (ps:List (Int×Int)):ir (p::ps)= .int .i64 p.1:: .int .i64 p.2::ir ps:=rfl
theorem lT:∀ps:List (Int×Int),(ir ps).length=ps.length*2
 |[]=>rfl
 |p::ps=>by rw[ei,length_cons,length_cons,lT ps,length_cons];omega
theorem ln:∀(ps:List (Int×Int)) (j:Nat),j<ps.length*2->(ir ps)[j]! =(encS ps[j / 2]!)[j % 2]!
 |[],j,h=>by simp at h
 |p::ps,0,_=>rfl
 |p::ps,1,_=>rfl
 |p::ps,j+2,h=>by
  have ih:=ln ps j (by rw[length_cons]at h;omega)
  have E:(j+2) / 2=j / 2+1:=by omega
  have F:(j+2) % 2=j % 2:=by omega
  rw[ei,E,F]
  simpa using ih
theorem lG:∀(ps:List (Int×Int)),∀v∈ir ps,v.oneCell'=true
 |[],v,h=>by cases h
 |p::ps,v,h=>by
  rw[ei]at h
  rcases mem_cons.1 h with rfl|h
  ·rfl
  rcases mem_cons.1 h with rfl|h
  ·rfl
  ·exact lG ps v h
theorem mE (d:Array (Int×Int)):(flatK encS 2 d).toList=ir d.toList:=by
 refine ext_getElem (by rw[lT];simp) λj J M=>?_
 have E:j<d.size*2:=by simpa using J
 have F:=get_flatK encS 2 d j E
 have I:=ln d.toList j (by simpa using E)
 rw[getElem!_pos (flatK encS 2 d) j (by simpa using E)]at F
 rw[getElem!_pos (ir d.toList) j M]at I
 rw[Array.getElem_toList,F,I]
 have:d.toList[j / 2]! =d[j / 2]! :=by simp[Array.getElem!_eq_getD,Array.getD_eq_getD_getElem?]
 rw[this]
theorem repL_S {τ:Store} {w:World}:∀ps:List (Int×Int),RepL τ w (ps.map spc).flatten (ir ps)
 |[]=>by simp only[map_nil,flatten_nil,RepL];rfl
 |p::ps=>by
  have:=repL_S (τ:=τ) (w:=w) ps
  rw[ei]
  simp only[map_cons,flatten_cons,spc,cons_append,nil_append,RepL,Rep]
  exact⟨_,_,rfl,rfl,_,_,rfl,rfl,this⟩
theorem repL_Sv {τ:Store} {w:World} {pad:List AV}:∀{ps:List (Int×Int)} {vs:List Value},RepL τ w ((ps.map spc).flatten++pad) vs->∃r,vs=ir ps++r
 |[],vs,_=>⟨vs,rfl⟩
 |p::ps,vs,h=>by
  simp only[map_cons,flatten_cons,spc,cons_append,nil_append,RepL,Rep]at h
  obtain⟨u,us,rfl,rfl,F,E,rfl,rfl,h⟩:=h
  obtain⟨r,rfl⟩:=repL_Sv h
  exact⟨r,by rw[ei];rfl⟩
theorem holds_of {w:World} {b:Nat} {vs:Array Value} {e:TypeId} (F:w.heap[b]? =some (.cells vs e (0,0))) (d:Array Value) {r:List Value} (I:vs.toList=d.toList++r):Holds id w b 0 d:=λj E=>by
 have M:vs.size=d.size+r.length:=by have:=congrArg List.length I;simpa using this
 have J:vs[j]? =some d[j]! :=by
  rw[←Array.getElem?_toList,I,getElem?_append_left (by simpa using E),getElem?_eq_getElem (by simpa using E),getElem!_pos d j E];rfl
 refine⟨?_,?_⟩
 ·simp[World.cell?,F,J]
 ·simp[World.frozen?,F]
theorem WSp.put {ps qs:List (Int×Int)} {b cap:Nat} {pad:List AV} (E:qs.length=ps.length) (J:ps.length<=cap) (F:cap<=maxLen) (I:((ps.map spc).flatten++pad).length=cap*2) (M:1<=ps.length):
  WSp qs (rawS b ps.length cap) [(b,.cells 255 ((qs.map spc).flatten++pad))]:=by
 refine .inr ⟨b,cap,pad,by rw[E],rfl,by omega,F,?_,by omega⟩
 rw[←I,length_append,length_append,ap _ (dk _),ap _ (dk _),length_map,length_map,E]
theorem splice_S {ps qs:List (Int×Int)} {pad:List AV} (E:qs.length=ps.length):splice ((ps.map spc).flatten++pad) 0 (qs.map spc).flatten=(qs.map spc).flatten++pad:=by
 have:∀(x y:List AV),splice x 0 y=y++x.drop y.length:=λx y=>by cases x<;>simp[splice]
 rw[this,drop_append_of_le_length (by rw[ap _ (dk _),ap _ (dk _),length_map,length_map,E];exact Nat.le_refl _),drop_of_length_le (by rw[ap _ (dk _),ap _ (dk _),length_map,length_map,E];exact Nat.le_refl _)]
 rfl
theorem repL_I {τ:Store} {w:World}:∀ys:List Int,RepL τ w (ys.map drow).flatten (ys.map (Value.int .i64))
 |[]=>by simp only[map_nil,flatten_nil,RepL]
 |p::ps=>by
  have:=repL_I (τ:=τ) (w:=w) ps
  simp only[map_cons,flatten_cons,drow,cons_append,nil_append,RepL,Rep]
  exact⟨_,_,rfl,rfl,this⟩
theorem repL_Iv {τ:Store} {w:World} {pad:List AV}:∀{zs:List Int} {vs:List Value},RepL τ w ((zs.map drow).flatten++pad) vs->∃r,vs=zs.map (Value.int .i64)++r
 |[],vs,_=>⟨vs,rfl⟩
 |p::ps,vs,h=>by
  simp only[map_cons,flatten_cons,drow,cons_append,nil_append,RepL,Rep]at h
  obtain⟨u,us,rfl,rfl,h⟩:=h
  obtain⟨r,rfl⟩:=repL_Iv h
  exact⟨r,rfl⟩
theorem holds_enc {w:World} {b:Nat} {vs:Array Value} {e:TypeId} (F:w.heap[b]? =some (.cells vs e (0,0))) (zs:List Int) {r:List Value} (M:vs.toList=zs.map (Value.int .i64)++r):Holds (Value.int .i64) w b 0 zs.toArray:=λj J=>by
 have E:j<zs.length:=by simpa using J
 have I:vs[j]? =some (Value.int .i64 zs[j]!):=by
  rw[←Array.getElem?_toList,M,getElem?_append_left (by simpa using E),getElem?_map,getElem?_eq_getElem E,getElem!_pos zs j E];rfl
 refine⟨?_,?_⟩
 ·simp[World.cell?,F,I]
 ·simp[World.frozen?,F]
theorem WIn.put {zs ys:List Int} {b cap:Nat} {pad:List AV} (E:ys.length=zs.length) (J:zs.length<=cap) (F:cap<=maxLen) (I:((zs.map drow).flatten++pad).length=cap*1) (M:1<=zs.length):
  WIn ys (rawS b zs.length cap) [(b,.cells 3 ((ys.map drow).flatten++pad))]:=by
 refine .inr ⟨b,cap,pad,by rw[E],rfl,by omega,F,?_,by omega⟩
 rw[←I,length_append,length_append,ap _ (dM _),ap _ (dM _),length_map,length_map,E]
theorem splice_I {zs ys:List Int} {pad:List AV} (E:ys.length=zs.length):splice ((zs.map drow).flatten++pad) 0 (ys.map drow).flatten=(ys.map drow).flatten++pad:=by
 have:∀(x y:List AV),splice x 0 y=y++x.drop y.length:=λx y=>by cases x<;>simp[splice]
 rw[this,drop_append_of_le_length (by rw[ap _ (dM _),ap _ (dM _),length_map,length_map,E];exact Nat.le_refl _),drop_of_length_le (by rw[ap _ (dM _),ap _ (dM _),length_map,length_map,E];exact Nat.le_refl _)]
 rfl
section
variable (G:Glob)
theorem sortSp:eK G:=by
 intro ps xv κ hl hW
 refine⟨⟨_,Tryz.func228,by kernel_rfl,by kernel_rfl⟩,λρ w vs N hA=>?_⟩
 obtain⟨u,v,rfl,r1,r2⟩:=g8 hA
 rcases hW with⟨rfl,rfl,rfl⟩|⟨b,cap,pad,rfl,rfl,h1,h2,h3,h4⟩
 ·simp only[Rep]at r1 r2
  subst r1 r2
  have E:=AnyF.slices_SortFunc_none Tryz.laysSortS none 0 (.func (.func 229) #[] #[]) w
  change Calls Tryz.prog 228 _ _ _ at E
  refine E.mono ?_
  rintro e w' ⟨rfl,rfl⟩
  exact⟨_,.tup [],[],rfl,⟨rfl,[],rfl,λq T=>T,.inl ⟨rfl,rfl,rfl⟩⟩,N,Ev.refl _ _,by simp only[Rep,RepL];exact⟨_,rfl,rfl⟩⟩
 ·simp only[Rep]at r1 r2
  subst r1 r2
  obtain⟨ac,Y,ho,hr⟩:=N.obj b _ (mem_append.2 (.inl mem_cons_self))
  obtain⟨r,J⟩:=repL_Sv hr
  have hH:HoldsK encS 2 w b 0 ps.toArray:=holds_of Y _ (r:=r) (by rw[mE];exact J)
  have hb:b<w.heap.size:=(Array.getElem?_eq_some_iff.1 Y).1
  have Z:∀args w,(callFunc 229 args).run Tryz.prog w= .ok (.enter 229 args) w:=enters_of Tryz.func229 (by kernel_rfl) rfl
  have E:=AnyQ.slices_SortFunc Tryz.laysSortS 2 Tryz.isAgg255 Tryz.sizeOf255 encS (λ_=>rfl) (λx v J=>by simp[encS]at J;rcases J with rfl|rfl<;>rfl) cfS swoS 229 #[] b 0 cap ps.toArray w Z (cmpLaysS b 0 ps.toArray.size w) hH hb (by simp;omega)
  change Calls Tryz.prog 228 _ _ _ at E
  refine E.mono ?_
  rintro e w' ⟨rfl,I,n,os,O,hs,rfl⟩
  have V:I.size=ps.length:=by have:=O.1;simpa using this
  have F:I.toList.length=ps.length:=by simpa using V
  have M:∀q∈I.toList,q∈ps:=λq T=>by
   have h:=O.2.2
   have X:ps.toArray.size=I.size:=O.1.symm
   rw[X,Array.extract_size,←X,Array.extract_size]at h
   simpa using h.mem_iff.1 T
  obtain⟨s1,s2⟩:=rowPut (α:=Value) (G:=G) (ρ:=ρ) (w:=w) (b:=b) (e:=255) (cs:=(ps.map spc).flatten++pad) (c:=(I.toList.map spc).flatten) id (flatK encS 2 I) n os N (by rw[map_id,mE];exact repL_S _) (λv J=>by rw[mE]at J;exact lG _ v J) (by rw[length_append,ap _ (dk _),ap _ (dk _),length_map,length_map,F];omega)
  rw[splice_S F]at s1 s2
  exact⟨_,.tup [],_,rfl,⟨rfl,I.toList,F,M,WSp.put F h1 h2 h3 h4⟩,s1,s2,by simp only[Rep,RepL];exact⟨_,rfl,rfl⟩⟩
theorem sortIn:SortIn G:=by
 intro zs xv κ hl hW
 refine⟨⟨_,Tryz.func375,by kernel_rfl,by kernel_rfl⟩,λρ w vs I Z=>?_⟩
 obtain⟨u,rfl,r1⟩:=vs_one Z
 rcases hW with⟨rfl,rfl,rfl⟩|⟨b,cap,pad,rfl,rfl,N,O,X,Y⟩
 ·simp only[Rep]at r1
  subst r1
  refine(Tryz.slices_Sort_int_none none 0 w).mono ?_
  rintro e w' ⟨rfl,rfl⟩
  exact⟨_,.tup [],[],rfl,⟨rfl,[],rfl,λq hq=>hq,List.Pairwise.nil,.inl ⟨rfl,rfl,rfl⟩⟩,I,Ev.refl _ _,by simp only[Rep,RepL];exact⟨_,rfl,rfl⟩⟩
 ·simp only[Rep]at r1
  subst r1
  obtain⟨ac,T,ho,hr⟩:=I.obj b _ (mem_append.2 (.inl mem_cons_self))
  obtain⟨r,V⟩:=repL_Iv hr
  have hH:Holds (Value.int .i64) w b 0 zs.toArray:=holds_enc T zs (r:=r) V
  have hb:b<w.heap.size:=(Array.getElem?_eq_some_iff.1 T).1
  refine(Tryz.slices_Sort_int b 0 cap zs w hH hb (by omega)).mono ?_
  rintro e w' ⟨rfl,n,os,rfl⟩
  obtain⟨ys,M⟩:∃ys,zs.mergeSort (λx y=>decide (x<=y))=ys:=⟨_,rfl⟩
  have J:=mergeSort_perm zs (λx y=>decide (x<=y))
  have F:=pairwise_mergeSort (le:=λx y:Int=>decide (x<=y)) (λa b c N O=>by simp at*;omega) (λa b=>by simp;omega) zs
  rw[M]at J F ⊢
  have E:ys.length=zs.length:=J.length_eq
  obtain⟨s1,s2⟩:=rowPut (G:=G) (ρ:=ρ) (w:=w) (b:=b) (e:=3) (cs:=(zs.map drow).flatten++pad) (c:=(ys.map drow).flatten) (Value.int .i64) ys.toArray n os I (repL_I ys) (λv V=>rfl) (by rw[length_append,ap _ (dM _),ap _ (dM _),length_map,length_map,E];omega)
  rw[splice_I E]at s1 s2
  exact⟨_,.tup [],_,rfl,⟨rfl,ys,E,λy hy=>J.mem_iff.1 hy,F.imp λh=>by simpa using h,WIn.put E N O X Y⟩,s1,s2,by simp only[Rep,RepL];exact⟨_,rfl,rfl⟩⟩
end
end Go.Av
