/-
  UNDO, plain law 1: a unit put in and taken out again; taken out and put back.
-/
import Derived.Test.YtnoakpkjccigoaaGreatDoorVXM2toXOpE
import Derived.Lib.ItoaLen
import Derived.Test.YtnoakpkjccigoaaGreatDoorVXOpenGtoXCS
namespace Go.Av
open Go Go.RowKit Go.Proofs List
set_option linter.unusedSimpArgs false
set_option linter.unusedVariables false
theorem n7 {u:U}:fnd u.id u=u:=aB (by rw[aN rfl];rfl)
theorem kid_par {q:Idd} {x:U} {a b:List U} (u:U) (F:u.ids.Nodup) (hq:q∈u.ids) (D:(fnd q u).kids=a++x::b):∃d,aF x.id u=some (fnd q u,d,a.length):=by
 revert D
 refine U.wayInd (i:=q) (p:=λu=>(fnd q u).kids=a++x::b->∃d,aF x.id u=some (fnd q u,d,a.length)) ?_ ?_ u F hq
 ·intro u F h D
  have e:fnd q u=u:=by rw[←h];exact n7
  rw[e]at D ⊢
  obtain⟨Z,n2⟩:=U.nd_kids F
  have Y:x.id∈U.idss u.kids:=de (k:=x) (by rw[D];simp) (cR x)
  obtain⟨I,k,O,s⟩:=eo Z Y
  have X:u.id≠x.id:=λe=>n2 (e ▸ Y)
  have ah:x∈u.flat:=dM u.flat_self (by rw[D];simp)
  have ac:k∈u.flat:=dM u.flat_self (by rw[s.eq];simp)
  have M:k=x:=by
   have E:x∈I++k::O:=by rw[←s.eq,D];simp
   rcases mem_append.1 E with E|E
   ·exact absurd (de E (cR x)) s.left
   ·rcases mem_cons.1 E with E|E
    ·exact E.symm
    ·exact absurd (de E (cR x)) s.right
  have ha:I.length=a.length:=by
   have e2:I++k::O=a++x::b:=by rw[←s.eq,D]
   have f1:cf (λk=>decide (k.id=x.id)) (I++k::O)=some I.length:=eO (eX s.left) (by rw[M];simp)
   have V:x.id∉U.idss a:=by
    have:(U.idss (a++x::b)).Nodup:=by rw[←D];exact Z
    rw[U.idss_app]at this
    intro hx
    exact(nodup_append.1 this).2.2 x.id hx x.id (de (k:=x) (by simp) (cR x)) rfl
   have f2:cf (λk=>decide (k.id=x.id)) (a++x::b)=some a.length:=eO (eX V) (by simp)
   rw[e2,f2]at f1
   injection f1 with f1
   exact f1.symm
  exact⟨0,by rw[g7 X s (by rw[M]),ha]⟩
 ·intro u I k O F h s ih D
  rw[s.fnd F s.mem]at D ⊢
  obtain⟨d,J⟩:=ih D
  have T:k.id≠x.id:=λe=>by rw[cB e]at J;cases J
  have N:x.id∈k.ids:=by
   have:U.way x.id k≠[]:=λe=>by unfold aF at J;rw[e]at J;cases J
   exact cq.1 this
  have s':=s.other (U.nd_kids F).1 N
  exact⟨d+1,by rw[fO (Split.ne F s N) s' T,J];rfl⟩
theorem jR {j:Idd} {f:U->U} (u:U) (D:u.ids.Nodup) (O:j∈u.ids) (E:∀y,(f y).id=y.id):fnd j (U.wth j f u)=f (fnd j u):=by
 refine U.wayInd (i:=j) (p:=λu=>fnd j (U.wth j f u)=f (fnd j u)) ?_ ?_ u D O
 ·intro u D h
  have e:fnd j u=u:=by rw[←h];exact n7
  rw[bA h,e]
  exact aB (by rw[aN (by rw[E];exact h)];rfl)
 ·intro u a k b D h s ih
  rw[s.fnd D s.mem,←ih,s.wth h]
  have T:(U.wth j f k).id=k.id:=wth_id E k
  have F:U.way j (U.wth j f k)≠[]:=by
   rw[cq]
   obtain⟨l,r,V,M⟩:=gO (f:=f) k s.nd s.mem
   rw[M]
   have:=cR (f (fnd j k))
   rw[E,(cS k s.nd s.mem).1]at this
   simp[this]
  have N:U.ways j a=[]:=(iC a).2 s.left
  unfold fnd
  rw[U.way_eq,if_neg h]
  simp only
  rw[fU,N,U.ways_cons]
  have J:orW [] (orW (U.way j (U.wth j f k)) (U.ways j b))=orW (U.way j (U.wth j f k)) (U.ways j b):=rfl
  rw[J,orW_ne F,n9 F]
  cases I:U.way j (U.wth j f k)with
  |nil=>exact absurd I F
  |cons y r=>simp[getLastD_eq_getLast?,getLast?_cons]
theorem jQ {j:Idd} {f:U->U} {u:U} (F:u.ids.Nodup) (D:j∈u.ids) (J:∀y,(f y).id=y.id):j∈(U.wth j f u).ids:=by
 obtain⟨l,r,_,I⟩:=gO (f:=f) u F D
 have E:=cR (f (fnd j u))
 rw[J,(cS u F D).1]at E
 rw[I]
 simp[E]
theorem ng {r:U} (N:r.ids.Nodup) {q:Idd} (M:q∈r.ids) {k:Nat} {x:U} (I:(U.wth q (λy=>{y with kids:=insAt y.kids k x}) r).ids.Nodup):
  without x.id (U.wth q (λy=>{y with kids:=insAt y.kids k x}) r)=r/\fnd x.id (U.wth q (λy=>{y with kids:=insAt y.kids k x}) r)=x/\x.id∈(U.wth q (λy=>{y with kids:=insAt y.kids k x}) r).ids:=by
 have X:=jR (f:=λy=>{y with kids:=insAt y.kids k x}) r N M (λ_=>rfl)
 obtain⟨v,E⟩:∃v,U.wth q (λy=>{y with kids:=insAt y.kids k x}) r=v:=⟨_,rfl⟩
 have F:q∈v.ids:=E ▸ jQ N M (λ_=>rfl)
 have D:(fnd q v).kids=(fnd q r).kids.take k++x::(fnd q r).kids.drop k:=by rw[←E,X];rfl
 rw[E]at I ⊢
 obtain⟨d,V⟩:=kid_par v I F D
 have O:(fnd q v).id=q:=(cS v I F).1
 have J:x∈v.flat:=dM (aP v I F) (by rw[D];simp)
 refine⟨?_,qD I J,mem_map.2 ⟨x,J,rfl⟩⟩
 unfold without
 rw[V]
 simp only
 rw[O,←E,mI (f:=λy=>{y with kids:=insAt y.kids k x}) (g:=λy=>{y with kids:=delAt y.kids ((fnd q r).kids.take k).length}) r N M (λy Y=>Y)]
 refine kz r N M ?_
 simp only
 have T:insAt (fnd q r).kids k x=(fnd q r).kids.take k++x::(fnd q r).kids.drop k:=rfl
 rw[T,bO,take_append_drop]
 cases fnd q r;rfl
theorem qG {u own:U} {i:Idd} {d j:Nat} (E:u.ids.Nodup) (I:aF i u=some (own,d,j)) (D:Par i u own d j):
  U.wth own.id (λy=>{y with kids:=insAt y.kids j (fnd i u)}) (without i u)=u/\fnd own.id (without i u)={own with kids:=delAt own.kids j}/\own.id∈(without i u).ids:=by
 obtain⟨a,x,b,s,T,M,N⟩:=D.split
 have F:fnd i u=x:=aB N
 subst M
 have J:without i u=U.wth own.id (λy=>{y with kids:=delAt y.kids a.length}) u:=by unfold without;rw[I]
 rw[J,F]
 refine⟨?_,?_,?_⟩
 ·rw[mI (f:=λy=>{y with kids:=delAt y.kids a.length}) (g:=λy=>{y with kids:=insAt y.kids a.length x}) u E D.mem (λy O=>O)]
  refine kz u E D.mem ?_
  simp only
  rw[D.fnd,s.eq,bO,n8,←s.eq]
  cases own;rfl
 ·rw[jR (f:=λy=>{y with kids:=delAt y.kids a.length}) u E D.mem (λ_=>rfl),D.fnd]
 ·exact jQ E D.mem (λ_=>rfl)
def stP (u:U):Bool:=pq u&& !((if u.kind=0 then u.ids.drop 1 else u.ids).any λx=>decide (x=zId))
def lev (u:U) (q:Idd):Int:=((U.way q u).length:Int)-1
def en (u:U) (q:Idd) (k:Int) (x:U):Int:=
 if stP u=false\/stP x=false\/x.kind=0 then 1
 else if q∉u.ids then 4
 else if nests (fnd q u).kind x.kind=false then 9
 else if k<0\/((fnd q u).kids.length:Int)<k then 3
 else if taken (fnd q u).kids x.kind x.label=true then 10
 else if 64<=(fnd q u).kids.length\/8<lev u q+1+x.dep\/1024<u.cnt+x.cnt then 6
 else if x.ids.any (λy=>decide (y∈u.ids))=true then 5 else 0
def insT (u:U) (q:Idd) (k:Int) (x:U):U×Int:=
 if en u q k x≠0 then (noU,en u q k x)else (U.wth q (λy=>{y with kids:=insAt y.kids k.toNat x}) u,0)
def remT (u:U) (i:Idd):U×Int:=
 if stP u=false then (noU,1)else if i∉u.ids then (noU,4)else if u.id=i then (noU,9)else (without i u,0)
def movT (u:U) (i q:Idd) (k:Int):U×Int:=
 if stP u=false then (noU,1)else if i∉u.ids\/q∉u.ids then (noU,4)
 else if i=u.id\/q∈(fnd i u).ids\/nests (fnd q u).kind (fnd i u).kind=false then (noU,9)
 else if k<0\/((fnd q (without i u)).kids.length:Int)<k then (noU,3)
 else if taken (fnd q (without i u)).kids (fnd i u).kind (fnd i u).label=true then (noU,10)
 else if 64<=(fnd q (without i u)).kids.length\/8<lev (without i u) q+1+(fnd i u).dep then (noU,6)
 else (U.wth q (λy=>{y with kids:=insAt y.kids k.toNat (fnd i u)}) (without i u),0)
def co (u:U) (i:Idd) (s:List UInt8):Bool:=match aF i u with
 |some (p,_,_)=>taken p.kids (fnd i u).kind s
 |none=>false
def relT (u:U) (i:Idd) (s:List UInt8):U×Int:=
 if stP u=false\/br s=false then (noU,1)else if i∉u.ids then (noU,4)else if (fnd i u).kind=0 then (noU,9)
 else if (fnd i u).label=s\/co u i s=true then (noU,10)else (U.wth i (λy=>{y with label:=s}) u,0)
def wrT (u:U) (i:Idd) (l:List Wd) (f:U->U):U×Int:=
 if stP u=false\/(l.any λw=>!bf w.text)=true then (noU,1)else if i∉u.ids then (noU,4)else if (fnd i u).kind=0 then (noU,9)
 else if 256<l.length then (noU,6)else (U.wth i f u,0)
theorem d6 {u:U} (h:Good u) (D:u.kind=0):stP u=true:=by
 unfold stP pq pH
 simp only[Bool.and_eq_true,decide_eq_true_eq,Bool.or_eq_true,Bool.not_eq_true',any_eq_false,all_eq_true]
 have I:=h.root.1 D
 refine⟨⟨h.node,by have:=h.dep;unfold U.dep;omega,by have:=h.cnt;unfold U.cnt;omega,.inr ⟨by rw[decide_eq_true I,decide_eq_true D],h.nd⟩⟩,?_⟩
 rw[if_pos D]
 intro x F e
 have E:=h.nd
 rw[U.ids_eq]at F E
 simp only[drop_one,tail_cons]at F
 rw[nodup_cons]at E
 exact E.1 (I ▸ e ▸ F)
theorem fB {u:U} (h:Good u) (h0:u.kind=0) {i:Idd} (hi:i∈u.ids) (I:u.id≠i):stP (fnd i u)=true/\(fnd i u).kind≠0:=by
 have hz:=h.root.1 h0
 have E:zId∉(fnd i u).ids:=by
  intro O
  rw[←hz]at O
  obtain⟨y,F,e⟩:=(eI u h.nd (cR u) hi).2 O
  rw[aN rfl,mem_singleton]at F
  subst F
  exact I e
 obtain⟨own,d,j,w1,w2,X⟩:=bt h.nd hi I
 obtain⟨a,x,b,s,hx,hj,hl⟩:=X.split
 have D:fnd i u=x:=aB hl
 have J:own∈u.flat:=by
  have:=aP u h.nd X.mem
  rw[X.fnd]at this;exact this
 have T:x.kind≠0:=jd (df (h.node own J) x (by rw[s.eq];simp))
 have Y:x∈u.flat:=dM J (by rw[s.eq];simp)
 rw[D]at E ⊢
 have M:∀y∈x.flat,y∈u.flat:=dD Y
 refine⟨?_,T⟩
 unfold stP pq pH
 simp only[Bool.and_eq_true,decide_eq_true_eq,Bool.or_eq_true,Bool.not_eq_true',any_eq_false,all_eq_true]
 have N:x.id≠zId:=λe=>E (e ▸ cR x)
 have V:x.ids.Nodup:=by have:=fnd_nd u h.nd hi;rwa [D]at this
 have hd:=(gb (f:=λy=>y) u h.nd hi).2
 rw[D]at hd
 have hc:x.flat.length<=u.flat.length:=by
  obtain⟨l,r,Z,_⟩:=ma (f:=λy=>y) u h.nd hi
  have:=congrArg List.length Z
  simp only[U.all5,length_map,length_append,D]at this
  omega
 refine⟨⟨λy F=>h.node y (M y F),by have:=h.dep;unfold U.dep;omega,by have:=h.cnt;unfold U.cnt;omega,.inr ⟨by rw[decide_eq_false N,decide_eq_false T],V⟩⟩,?_⟩
 rw[if_neg T]
 intro y F e
 exact E (e ▸ F)
structure Back (u own:U) (i:Idd) (j:Nat):Prop where
 good:Good (without i u)
 kind:(without i u).kind=0
 mem:own.id∈(without i u).ids
 here:fnd own.id (without i u)={own with kids:=delAt own.kids j}
 nest:nests own.kind (fnd i u).kind=true
 le:j<=(delAt own.kids j).length
 free:taken (delAt own.kids j) (fnd i u).kind (fnd i u).label=false
 room:(delAt own.kids j).length<64
 level:lev (without i u) own.id+1+(fnd i u).dep<=8
 cnt:(without i u).cnt+(fnd i u).cnt<=1024
 apart:((fnd i u).ids.any λy=>decide (y∈(without i u).ids))=false
 put:U.wth own.id (λy=>{y with kids:=insAt y.kids j (fnd i u)}) (without i u)=u
theorem back {u own:U} (h:Good u) (h0:u.kind=0) {i:Idd} (hi:i∈u.ids) (Z:u.id≠i) {d j:Nat} (w1:aF i u=some (own,d,j)) (E:Par i u own d j):Back u own i j:=by
 obtain⟨g1,g2,g3,A,B,_,g5,g6⟩:=cN h hi Z
 obtain⟨p1,p2,p3⟩:=qG h.nd w1 E
 obtain⟨a,x,b,s,hx,hj,hl⟩:=E.split
 have N:fnd i u=x:=aB hl
 have ac:own∈u.flat:=by
  have:=aP u h.nd E.mem
  rw[E.fnd]at this;exact this
 have T:=h.node own ac
 have D:delAt own.kids j=a++b:=by rw[s.eq,hj,bO]
 have hW:without i u=U.wth own.id (λy=>{y with kids:=delAt y.kids j}) u:=by unfold without;rw[w1]
 have M:=T
 unfold nodeOk at M
 simp only[Bool.and_eq_true,decide_eq_true_eq]at M
 obtain⟨_,⟨_,I⟩,aw⟩:=M
 have al:a.length+(b.length+1)<=64:=by
  have:=congrArg List.length s.eq
  simp only[length_append,length_cons]at this
  omega
 refine⟨g1,g2.kind.trans h0,p3,p2,?_,?_,?_,?_,?_,?_,?_,p1⟩
 ·rw[N];exact df T x (by rw[s.eq];simp)
 ·rw[D,hj,length_append];omega
 ·rw[N,D]
  unfold pr at I
  rw[s.eq,map_append,map_cons]at I
  unfold taken
  rw[any_eq_false]
  intro y F e
  simp only[Bool.and_eq_true,decide_eq_true_eq]at e
  have J:(y.kind,y.label)=(x.kind,x.label):=by rw[e.1,e.2]
  rw[nodup_append]at I
  obtain⟨n1,V,n3⟩:=I
  rcases mem_append.1 F with F|F
  ·exact n3 _ (mem_map.2 ⟨y,F,rfl⟩) _ (by simp) J
  ·rw[nodup_cons]at V
   exact V.1 (J ▸ mem_map.2 ⟨y,F,rfl⟩)
 ·rw[D,length_append];omega
 ·have hw:U.way own.id (without i u)=(U.way own.id u).map (U.wth own.id λy=>{y with kids:=delAt y.kids j}):=by
   rw[hW]
   refine jN (j:=own.id) (t:=own.id) (f:=λy=>{y with kids:=delAt y.kids j}) u h.nd (λy F e=>⟨rfl,?_⟩)
   have ah:y=own:=node_eq h.nd E.fnd E.mem F e
   subst ah
   have O:y.id∉U.idss y.kids:=(U.nd_kids E.nd).2
   have Y:y.id∉U.idss (delAt y.kids j):=idss_del O
   rw[(iC _).2 O,(iC _).2 Y]
  have hd:=(gb (f:=λy=>y) u h.nd hi).2
  have an:(U.way i u).length=d+2:=by
   have:=congrArg List.length E.path
   rw[length_append,E.deep]at this
   simpa using this
  have h8:=h.dep
  unfold lev U.dep
  rw[hw,length_map,E.deep]
  omega
 ·have hc:=h.cnt
  have e1:=congrArg List.length g5
  have e2:=congrArg List.length g6
  simp only[U.ids,length_map,length_append]at e1 e2
  unfold U.cnt
  omega
 ·have X:=h.nd
  rw[g5]at X
  rw[any_eq_false,g6]
  intro y F e
  simp only[decide_eq_true_eq]at e
  rw[nodup_append]at X
  obtain⟨_,V,n3⟩:=X
  rw[nodup_append]at V
  rcases mem_append.1 e with e|e
  ·exact n3 y e y (mem_append.2 (.inl F)) rfl
  ·exact V.2.2 y F y e rfl
theorem back_in {u own:U} (h:Good u) (F:u.kind=0) {i:Idd} (hi:i∈u.ids) (E:u.id≠i) {j:Nat} (D:Back u own i j):insT (without i u) own.id j (fnd i u)=(u,0):=by
 obtain⟨J,M⟩:=fB h F hi E
 have I:en (without i u) own.id j (fnd i u)=0:=by
  unfold en
  rw[D.here]
  simp only
  rw[if_neg (by rw[d6 D.good D.kind,J];simp[M]),if_neg (by simp[D.mem]),if_neg (by rw[D.nest];simp),if_neg (by have:=D.le;omega),if_neg (by simp[D.free]),if_neg (by have:=D.room;have:=D.level;have:=D.cnt;omega),if_neg (by simp[D.apart])]
 unfold insT
 rw[if_neg (by rw[I];simp),Int.toNat_natCast,D.put]
structure Pt where
 kind:Int
 at_:Int
 id:Idd
 parent:Idd
 unit:U
 label:List UInt8
 words:List Wd
def zPt:Pt:=⟨0,0,zId,zId,noU,[],[]⟩
def mkPt (u:U) (d:Dd) (i:Idd):Pt:=
 if d.it.kind=0 then ⟨0,0,⟨d.act,d.item,1⟩,zId,noU,[],[]⟩
 else if d.it.kind=1 then ⟨1,(parR i u).2.2,i,(parR i u).1.id,fnd i u,[],[]⟩
 else if d.it.kind=2\/d.it.kind=3 then ⟨4,0,i,zId,noU,[],(fnd i u).words⟩
 else if d.it.kind=4 then ⟨5,0,i,zId,noU,[],(fnd i u).head⟩
 else if d.it.kind=5 then ⟨3,0,i,zId,noU,(fnd i u).label,[]⟩
 else ⟨2,(parR i u).2.2,i,(parR i u).1.id,noU,[],[]⟩
def invP (u:U) (d:Dd):Pt×Int:=if (doP u d).2≠0 then (zPt,(doP u d).2)else (mkPt u d (one u d.it.at_).1,0)
def revP (v:U) (p:Pt):U×Int:=
 if p.kind=0 then remT v p.id
 else if p.kind=1 then insT v p.parent p.at_ p.unit
 else if p.kind=2 then movT v p.id p.parent p.at_
 else if p.kind=3 then relT v p.id p.label
 else if p.kind=4 then wrT v p.id p.words (λy=>{y with words:=p.words})
 else if p.kind=5 then wrT v p.id p.words (λy=>{y with head:=p.words})
 else (noU,1)
theorem goes_in {u:U} (h:Good u) {i t:Idd} (hi:i∈u.ids) (E:u.id≠i) (X:t∈u.ids) {wh:Int} (h0:0<=wh) (h3:wh<=3) {q:Idd} {k:Nat} (e:dY u i t wh=some (q,k)):q∈(without i u).ids:=by
 obtain⟨g1,g2,g3,A,B,hA,Y,Z⟩:=cN h hi E
 obtain⟨own,dO,j,w1,w2,O⟩:=bt h.nd hi E
 obtain⟨a,x,b,s,hx,hj,hl⟩:=O.split
 have M:fnd i u=x:=aB hl
 have F:q∈u.ids/\q∉(fnd i u).ids:=by
  unfold dY at e
  rw[w1]at e
  simp only at e
  split at e
  ·cases e
  ·rename_i V
   rw[not_or]at V
   split at e
   ·injection e with e;injection e with e3 e4
    subst e3
    refine⟨O.mem,?_⟩
    rw[M]
    have:=(U.nd_kids O.nd).2
    rw[s.eq,U.idss_app,U.idss_cons]at this
    exact λD=>this (mem_append.2 (.inr (mem_append.2 (.inl D))))
   ·rename_i T
    obtain⟨⟨q',k'⟩,I,e6⟩:=Option.map_eq_some_iff.1 e
    injection e6 with e7 e8
    subst e7
    have hr:¬(besides wh=true/\t=u.id):=by
     rintro⟨r1,r2⟩
     have J:wh=2\/wh=3:=by simpa[besides]using r1
     unfold spot at I
     rw[cB r2.symm]at I
     rcases J with J|J<;>simp[J]at I
    obtain⟨P,dp,k2,N⟩:=jP h.nd X h0 h3 hr
    have:=N.spot
    rw[I]at this
    injection this with this
    injection this with e9 e10
    simp only at e9 ⊢
    rw[e9]
    refine⟨N.mem,N.out i hi λD=>?_⟩
    exact V.1 ((gl u h.nd X hi).2 ⟨T,D⟩)
 rw[Z]
 have:=F.1
 rw[Y]at this
 rcases mem_append.1 this with D|D
 ·exact mem_append.2 (.inl D)
 ·rcases mem_append.1 D with D|D
  ·exact absurd D F.2
  ·exact mem_append.2 (.inr D)
theorem undo_ins {u:U} (h:Good u) (O:u.kind=0) {d:Dd} (T:d.it.kind=0) (E:(doP u d).2=0) (ha:1<=d.act):remT (doP u d).1 ⟨d.act,d.item,1⟩=(u,0):=by
 obtain⟨F,D⟩:=rd h d
 have e:=E
 unfold doP at E F D ⊢
 split at E
 ·cases E
 rename_i c1
 rw[if_neg c1]at F D ⊢
 have Z:d.it.may=true:=by cases h:d.it.may<;>simp_all
 split at E
 ·rename_i c2;exact absurd E c2
 rename_i c2
 rw[if_neg c2]at F D ⊢
 have hi:=bZ (u:=u) (p:=d.it.at_) (by simpa using c2)
 rw[if_pos T]at F D ⊢
 obtain⟨s1,s2,s3,s4,s5⟩:=je d.it.unit d.act d.item (kD Z T)
 have I:(cz d.it.unit d.act d.item).id=⟨d.act,d.item,1⟩:=by
  have:=s1
  rw[U.ids_eq]at this
  have hp:=d.it.unit.flat_pos
  cases Y:d.it.unit.flat.length with
  |zero=>omega
  |succ n=>
   rw[Y]at this
   simp only[idRow,range_succ_eq_map,map_cons]at this
   injection this with t1 _
 unfold insP at E F D ⊢
 rcases J:spot u (one u d.it.at_).1 d.it.wh with _|⟨q,k⟩
 ·simp only[J]at E;cases E
 ·simp only[J]at E F D ⊢
  split at E
  ·rename_i c;exact absurd E c
  rename_i c3
  rw[if_neg c3]at F D ⊢
  split at E
  ·cases E
  rename_i c4
  rw[if_neg c4]at F D ⊢
  split at E
  ·cases E
  rename_i c5
  rw[if_neg c5]at F D ⊢
  simp only at F D ⊢
  have hq:=iy h.nd hi J
  obtain⟨V,p2,X⟩:=ng h.nd hq F.nd
  rw[I]at V p2 X
  have N:=D.kind.trans O
  have M:(U.wth q (λy=>{y with kids:=insAt y.kids k (cz d.it.unit d.act d.item)}) u).id≠⟨d.act,d.item,1⟩:=by
   rw[D.id,h.root.1 O]
   intro e
   injection e with e _ _
   omega
  unfold remT
  rw[if_neg (by rw[d6 F N];simp),if_neg (by simp[X]),if_neg M,V]
theorem nF {u:U} (D:u.ids.Nodup) {i:Idd} (hi:i∈u.ids) {f g:U->U} (E:∀y,(f y).id=y.id) (F:g (f (fnd i u))=fnd i u):U.wth i g (U.wth i f u)=u:=by
 rw[mI (f:=f) (g:=g) u D hi (λy I=>by rw[E];exact I)]
 exact kz (f:=λy=>g (f y)) u D hi F
theorem row_words {l:List Wd} (h:aU l=true):l.length<=256/\(l.any λw=>!bf w.text)=false:=by
 unfold aU at h
 simp only[Bool.and_eq_true,decide_eq_true_eq,all_eq_true]at h
 refine⟨by omega,?_⟩
 rw[any_eq_false]
 intro w D e
 have:=h.2 w D
 unfold wdOk at this
 rw[this]at e
 exact absurd e (by decide)
theorem undo_wr {u:U} (h:Good u) (I:u.kind=0) {i:Idd} (hi:i∈u.ids) (F:u.id≠i) {f g:U->U} {l:List Wd} (D:∀y,(f y).id=y.id) (E:∀y,(f y).kind=y.kind)
  (J:g (f (fnd i u))=fnd i u) (V:Good (U.wth i f u)) (T:Root u (U.wth i f u)) (N:aU l=true):wrT (U.wth i f u) i l g=(u,0):=by
 obtain⟨Y,X⟩:=row_words N
 have O:i∈(U.wth i f u).ids:=jQ h.nd hi D
 have M:=(fB h I hi F).2
 unfold wrT
 rw[if_neg (by rw[d6 V (T.kind.trans I),X];simp),if_neg (by simp[O]),if_neg (by rw[jR u h.nd hi D,E];exact M),if_neg (by omega),nF h.nd hi D J]
theorem undo_del {u:U} (h:Good u) (E:u.kind=0) {i:Idd} (hi:i∈u.ids) (D:u.id≠i):insT (without i u) (parR i u).1.id (parR i u).2.2 (fnd i u)=(u,0):=by
 obtain⟨own,d,j,I,w2,F⟩:=bt h.nd hi D
 rw[w2]
 exact back_in h E hi D (back h E hi D I F)
theorem par_map {u v:U} {i:Idd} {g:U->U} (I:U.way i v=(U.way i u).map g) {own:U} {d j:Nat} (w:aF i u=some (own,d,j)):∃J,aF i v=some (g own,d,J):=by
 unfold aF at w ⊢
 rw[I,←map_reverse]
 cases D:(U.way i u).reverse with
 |nil=>rw[D]at w;cases w
 |cons a l=>
  cases l with
  |nil=>rw[D]at w;cases w
  |cons b r=>
   rw[D]at w
   simp only[Option.some.injEq,Prod.mk.injEq]at w
   obtain⟨E,F,_⟩:=w
   subst E
   simp only[map_cons,length_map,F]
   exact⟨_,rfl⟩
theorem undo_rel {u:U} (h:Good u) (h0:u.kind=0) {i:Idd} (hi:i∈u.ids) (Y:u.id≠i) {s:List UInt8} (hs:taken (parR i u).1.kids (fnd i u).kind s=false)
  (hv:Good (U.wth i (λy=>{y with label:=s}) u)) (hr:Root u (U.wth i (λy=>{y with label:=s}) u)):relT (U.wth i (λy=>{y with label:=s}) u) i (fnd i u).label=(u,0):=by
 obtain⟨own,d,j,w1,w2,hp⟩:=bt h.nd hi Y
 rw[w2]at hs
 simp only at hs
 have hm:i∈(U.wth i (λy=>{y with label:=s}) u).ids:=jQ h.nd hi (λ_=>rfl)
 have hk:=(fB h h0 hi Y).2
 have J:fnd i (U.wth i (λy=>{y with label:=s}) u)={fnd i u with label:=s}:=jR u h.nd hi (λ_=>rfl)
 have T:=(fp (h.node _ (aP u h.nd hi)) hk).1
 obtain⟨a,x,b,sp,hx,hj,hl⟩:=hp.split
 have E:fnd i u=x:=aB hl
 have V:x∈own.kids:=by rw[sp.eq];simp
 have M:(fnd i u).label≠s:=by
  intro e
  unfold taken at hs
  rw[any_eq_false]at hs
  exact hs x V (by rw[E,←e,E];simp)
 have Z:own∈u.flat:=by
  have:=aP u h.nd hp.mem
  rw[hp.fnd]at this;exact this
 have ah:co (U.wth i (λy=>{y with label:=s}) u) i (fnd i u).label=false:=by
  have hw:U.way i (U.wth i (λy=>{y with label:=s}) u)=(U.way i u).map (U.wth i λy=>{y with label:=s}):=jN (j:=i) (t:=i) (f:=λy=>{y with label:=s}) u h.nd (λy D e=>⟨rfl,rfl⟩)
  obtain⟨j',e⟩:=par_map hw w1
  unfold co
  rw[e]
  simp only
  rw[J]
  have ac:own.id≠i:=by
   intro O
   have X:=(U.nd_kids hp.nd).2
   rw[O]at X
   exact X (by rw[sp.eq,U.idss_app,U.idss_cons,←hx];exact mem_append.2 (.inr (mem_append.2 (.inl (cR x)))))
  rw[Split.wth ac sp]
  simp only
  rw[bA hx]
  have N:=h.node own Z
  unfold nodeOk at N
  simp only[Bool.and_eq_true,decide_eq_true_eq]at N
  obtain⟨_,⟨_,I⟩,_⟩:=N
  unfold pr at I
  rw[sp.eq,map_append,map_cons,nodup_append]at I
  obtain⟨n1,n2,n3⟩:=I
  unfold taken
  rw[any_eq_false,E]
  rw[E]at M
  intro y D O
  simp only[Bool.and_eq_true,decide_eq_true_eq]at O
  have F:(y.kind,y.label)=(x.kind,x.label):=by rw[O.1,O.2]
  rcases mem_append.1 D with D|D
  ·exact n3 _ (mem_map.2 ⟨y,D,rfl⟩) _ (by simp) F
  ·rcases mem_cons.1 D with D|D
   ·subst D
    exact M O.2.symm
   ·rw[nodup_cons]at n2
    exact n2.1 (F ▸ mem_map.2 ⟨y,D,rfl⟩)
 unfold relT
 rw[if_neg (by rw[d6 hv (hr.kind.trans h0),T];simp),if_neg (by simp[hm]),if_neg (by rw[J];exact hk),if_neg (by rw[J,ah];simp only;rintro(e|e);exact M e.symm;cases e)]
 rw[nF (f:=λy=>{y with label:=s}) (g:=λy=>{y with label:=(fnd i u).label}) h.nd hi (λ_=>rfl) (by cases fnd i u;rfl)]
theorem si {t:Idd} {l:List U} {k:Nat} {x:U}:t∈U.idss (insAt l k x)↔t∈U.idss l\/t∈x.ids:=by
 have e:insAt l k x=l.take k++x::l.drop k:=rfl
 have D:U.idss l=U.idss (l.take k)++U.idss (l.drop k):=by rw[←U.idss_app,take_append_drop]
 rw[e,D,U.idss_app,U.idss_cons]
 simp only[mem_append]
 constructor
 ·rintro(h|h|h)
  ·exact .inl (.inl h)
  ·exact .inr h
  ·exact .inl (.inr h)
 ·rintro((h|h)|h)
  ·exact .inl h
  ·exact .inr (.inr h)
  ·exact .inr (.inl h)
theorem ins_mem {r:U} (I:r.ids.Nodup) {q:Idd} (J:q∈r.ids) {k:Nat} {x:U} {t:Idd} (D:t∈r.ids):t∈(U.wth q (λy=>{y with kids:=insAt y.kids k x}) r).ids:=by
 obtain⟨l,M,E,F⟩:=gO (f:=λy=>{y with kids:=insAt y.kids k x}) r I J
 rw[E]at D
 rw[F]
 rcases mem_append.1 D with h|h
 ·exact mem_append.2 (.inl h)
 rcases mem_append.1 h with h|h
 ·refine mem_append.2 (.inr (mem_append.2 (.inl ?_)))
  rw[U.ids_eq]at h ⊢
  simp only[mem_cons]at h ⊢
  rcases h with h|h
  ·exact .inl h
  ·exact .inr (si.2 (.inl h))
 ·exact mem_append.2 (.inr (mem_append.2 (.inr h)))
theorem ways_ins {t:Idd} {l:List U} {k:Nat} {x:U} (h:t∉x.ids):U.ways t (insAt l k x)=U.ways t l:=by
 have e:insAt l k x=l.take k++x::l.drop k:=rfl
 rw[e,←nJ h,take_append_drop]
theorem ml {r:U} (J:r.ids.Nodup) {q:Idd} (T:q∈r.ids) {k:Nat} {x:U} {t:Idd} (M:t∈r.ids) (O:t∉x.ids):(fnd t (U.wth q (λy=>{y with kids:=insAt y.kids k x}) r)).kind=(fnd t r).kind:=by
 have N:U.way t (U.wth q (λy=>{y with kids:=insAt y.kids k x}) r)=(U.way t r).map (U.wth q λy=>{y with kids:=insAt y.kids k x}):=
  jN (j:=q) (t:=t) (f:=λy=>{y with kids:=insAt y.kids k x}) r J (λy D e=>⟨rfl,ways_ins O⟩)
 obtain⟨y,D⟩:∃y,(U.way t r).getLast?=some y:=by
  cases E:(U.way t r).getLast? with
  |some y=>exact⟨y,rfl⟩
  |none=>
   rw[getLast?_eq_none_iff]at E
   exact absurd M ((cO r).1 E)
 have F:fnd t r=y:=aB D
 have I:fnd t (U.wth q (λy=>{y with kids:=insAt y.kids k x}) r)=U.wth q (λy=>{y with kids:=insAt y.kids k x}) y:=by
  refine aB ?_
  rw[N,getLast?_map,D];rfl
 rw[F,I]
 exact eM (f:=λy=>{y with kids:=insAt y.kids k x}) U.kind (λ_=>rfl) (λ_ _=>rfl) y
theorem undo_mov {u:U} (h:Good u) (V:u.kind=0) {i:Idd} (hi:i∈u.ids) (J:u.id≠i) {q:Idd} (T:q∈(without i u).ids) {k:Nat} {v:U} (E:v=U.wth q (λy=>{y with kids:=insAt y.kids k (fnd i u)}) (without i u))
  (Y:Good v) (X:Root u v):movT v i (parR i u).1.id (parR i u).2.2=(u,0):=by
 obtain⟨own,d,j,w1,w2,hp⟩:=bt h.nd hi J
 rw[w2]
 simp only
 have D:=back h V hi J w1 hp
 have F:=D.good.nd
 have N:(fnd i u).id=i:=(cS u h.nd hi).1
 obtain⟨Z,p2,p3⟩:=ng (x:=fnd i u) F T (E ▸ Y.nd)
 rw[←E,N]at Z p2 p3
 have O:own.id∈v.ids:=E ▸ ins_mem F T D.mem
 have M:own.id∉(fnd i u).ids:=by
  intro e
  have:=D.apart
  rw[any_eq_false]at this
  exact this _ e (by simp[D.mem])
 have I:(fnd own.id v).kind=own.kind:=by
  rw[E,ml F T D.mem M,D.here]
 unfold movT
 rw[if_neg (by rw[d6 Y (X.kind.trans V)];simp),if_neg (by simp[p3,O]),Z,p2,D.here]
 simp only
 rw [if_neg (by rw [I, D.nest]; rintro (e | e | e)
                · exact J (X.id ▸ e.symm)
                · exact M e
                · cases e), if_neg (by have := D.le; omega), if_neg (by simp [D.free]), if_neg (by have := D.room; have := D.level; omega), Int.toNat_natCast, D.put]
theorem sf {u:U} (h:Good u) (J:u.kind=0) {d:Dd} (D:(doP u d).2=0) (ha:1<=d.act):(invP u d).2=0/\revP (doP u d).1 (invP u d).1=(u,0):=by
 obtain⟨F,E⟩:=rd h d
 have N:invP u d=(mkPt u d (one u d.it.at_).1,0):=by unfold invP;rw[if_neg (by simp[D])]
 rw[N]
 refine⟨rfl,?_⟩
 simp only
 by_cases T:d.it.kind=0
 ·have e:=undo_ins h J T D ha
  unfold mkPt
  rw[if_pos T]
  unfold revP
  simp only
  rw[if_pos trivial,e]
 have ac:=D
 unfold doP at D F E ⊢
 by_cases c1:chg d.it.kind=false\/d.it.may=false
 ·rw[if_pos c1]at D;cases D
 rw[if_neg c1]at D F E ⊢
 by_cases c2:(one u d.it.at_).2≠0
 ·rw[if_pos c2]at D;exact absurd D c2
 rw[if_neg c2,if_neg T]at D F E ⊢
 by_cases c3:(one u d.it.at_).1=u.id
 ·rw[if_pos c3]at D
  split at D
  ·rename_i c;exact absurd D c.2
  ·cases D
 rw[if_neg c3]at D F E ⊢
 have hi:=bZ (u:=u) (p:=d.it.at_) (by simpa using c2)
 have I:u.id≠(one u d.it.at_).1:=λe=>c3 e.symm
 have hk:=(fB h J hi I).2
 obtain⟨l1,l2,l3⟩:=fp (h.node _ (aP u h.nd hi)) hk
 obtain⟨i,Z⟩:∃i,(one u d.it.at_).1=i:=⟨_,rfl⟩
 rw[Z]at D F E hi I hk l1 l2 l3 ⊢
 unfold mkPt
 rw[if_neg T]
 by_cases k1:d.it.kind=1
 ·rw[if_pos k1]
  rw[if_pos k1]at D F E ⊢
  unfold revP
  simp only
  rw[if_neg (by decide),if_pos trivial]
  exact undo_del h J hi I
 rw[if_neg k1]at D F E ⊢
 rw[if_neg k1]
 by_cases V:d.it.kind=2\/d.it.kind=3
 ·rw[if_pos V]
  rw[if_pos V]at D F E ⊢
  by_cases c4:(bJ (fnd i u).words d.it d.act d.item).2≠0
  ·rw[if_pos c4]at D;exact absurd D c4
  rw[if_neg c4]at F E ⊢
  unfold revP
  simp only
  rw[if_neg (by decide),if_neg (by decide),if_neg (by decide),if_neg (by decide),if_pos trivial]
  exact undo_wr (f:=λy=>{y with words:=(bJ (fnd i u).words d.it d.act d.item).1}) (g:=λy=>{y with words:=(fnd i u).words}) h J hi I (λ_=>rfl) (λ_=>rfl) (by cases fnd i u;rfl) F E l3
 rw[if_neg V]at D F E ⊢
 rw[if_neg V]
 by_cases X:d.it.kind=4
 ·rw[if_pos X]
  rw[if_pos X]at D F E ⊢
  unfold revP
  simp only
  rw[if_neg (by decide),if_neg (by decide),if_neg (by decide),if_neg (by decide),if_neg (by decide),if_pos trivial]
  exact undo_wr (f:=λy=>{y with head:=aX d.act d.item d.it.new 0}) (g:=λy=>{y with head:=(fnd i u).head}) h J hi I (λ_=>rfl) (λ_=>rfl) (by cases fnd i u;rfl) F E l2
 rw[if_neg X]at D F E ⊢
 rw[if_neg X]
 by_cases k5:d.it.kind=5
 ·rw[if_pos k5]
  rw[if_pos k5]at D F E ⊢
  by_cases c4:dR (parR i u).1 (parR i u).1.kids {fnd i u with label:=d.it.label}=10
  ·rw[if_pos c4]at D;cases D
  rw[if_neg c4]at F E ⊢
  unfold revP
  simp only
  rw[if_neg (by decide),if_neg (by decide),if_neg (by decide),if_pos trivial]
  have M:nests (parR i u).1.kind (fnd i u).kind=true:=by
   obtain⟨own,dd,j,w1,w2,hp⟩:=bt h.nd hi I
   rw[w2]
   exact(back h J hi I w1 hp).nest
  refine undo_rel h J hi I ?_ F E
  unfold dR at c4
  simp only at c4
  rw[if_neg (by rw[M];simp)]at c4
  split at c4
  ·exact absurd rfl c4
  ·rename_i c;simpa using c
 rw[if_neg k5]at D F E ⊢
 rw[if_neg k5]
 by_cases c5:(one u d.it.to_).2≠0
 ·rw[if_pos c5]at D;exact absurd D c5
 rw[if_neg c5]at D F E ⊢
 have ht:=bZ (u:=u) (p:=d.it.to_) (by simpa using c5)
 unfold movP at D F E ⊢
 rcases Y:dY u i (one u d.it.to_).1 d.it.wh with _|⟨q,k⟩
 ·simp only[Y]at D;cases D
 simp only[Y]at D F E ⊢
 have O:0<=d.it.wh/\d.it.wh<=3:=by
  rw[not_or]at c1
  have hc:chg d.it.kind=true:=by simpa using c1.1
  unfold chg at hc
  simp only[Bool.and_eq_true,decide_eq_true_eq]at hc
  exact fd (by simpa using c1.2) (.inr (by omega))
 have hq:=goes_in h hi I ht O.1 O.2 Y
 split at D
 ·rename_i c;exact absurd D c
 rename_i c6
 rw[if_neg c6]at F E ⊢
 split at D
 ·cases D
 rename_i c7
 rw[if_neg c7]at F E ⊢
 unfold revP
 simp only
 rw[if_neg (by decide),if_neg (by decide),if_pos trivial]
 exact undo_mov h J hi I hq rfl F E
/-! ### the reference -/
theorem fit_mem {u:U} {q:Idd} {k:Int} {x:U} (h:en u q k x=0):q∈u.ids:=by
 unfold en at h
 split at h
 ·cases h
 split at h
 ·cases h
 ·rename_i c;simpa using c
theorem fA {n:Int} (D:0<=n) (E:n<10):Lib.itoa n=[UInt8.ofNat (48+n.toNat)]:=by
 unfold Lib.itoa
 rw[if_neg (by omega),Lib.decDigits_one (by omega)]
theorem rY {n:Int} (F:10<=n):Lib.itoa n=Lib.itoa (n.tdiv 10)++[UInt8.ofNat (48+(n.tmod 10).toNat)]:=by
 obtain⟨m,rfl⟩:∃m:Nat,n=m:=⟨n.toNat,by omega⟩
 have D:((m:Int).tdiv 10)=((m / 10:Nat):Int):=by rw[Int.tdiv_eq_ediv_of_nonneg (by omega)];omega
 have E:((m:Int).tmod 10)=((m % 10:Nat):Int):=by rw[Int.tmod_eq_emod_of_nonneg (by omega)];omega
 rw[D,E]
 unfold Lib.itoa
 rw[if_neg (by omega),if_neg (by omega),Int.toNat_natCast,Int.toNat_natCast,Int.toNat_natCast,Lib.decDigits,dif_neg (by omega)]
theorem rt {n:Int} (h:n<0):Lib.itoa n=45::Lib.itoa (-n):=by
 unfold Lib.itoa
 rw[if_pos h,if_neg (by omega)]
 congr 2
 omega
theorem rZ {n:Int} (D:n<0) (E: -10<n):Lib.itoa n=45::[UInt8.ofNat (48+(-n).toNat)]:=by
 rw[rt D,fA (by omega) (by omega)]
theorem itoa_nbig {n:Int} (E:n<= -10):Lib.itoa n=Lib.itoa (n.tdiv 10)++[UInt8.ofNat (48+(-(n.tmod 10)).toNat)]:=by
 obtain⟨m,rfl⟩:∃m:Nat,n= -(m:Int):=⟨(-n).toNat,by omega⟩
 rw[rt (by omega),Int.neg_neg,rY (by omega),Int.neg_tdiv,Int.neg_tmod,Int.neg_neg]
 have D:((m:Int).tdiv 10)=((m / 10:Nat):Int):=by rw[Int.tdiv_eq_ediv_of_nonneg (by omega)];omega
 rw[D,rt (n:=-((m / 10:Nat):Int)) (by omega),Int.neg_neg]
 rfl
/-! ### the texts of patches -/
def idTx (i:Idd):List UInt8:=Lib.itoa i.act++(46::(Lib.itoa i.item++(46::Lib.itoa i.n)))
def allU:U->List Dd->U×List Pt
 |u,[]=>(u,[])
 |u,d::l=>if chg d.it.kind=false\/(invP u d).2≠0 then allU u l else ((allU (doP u d).1 l).1,(invP u d).1::(allU (doP u d).1 l).2)
theorem allU_nil (u:U):allU u []=(u,[]):=rfl
theorem ln (u:U) (d:Dd) (l:List Dd):allU u (d::l)=if chg d.it.kind=false\/(invP u d).2≠0 then allU u l else ((allU (doP u d).1 l).1,(invP u d).1::(allU (doP u d).1 l).2):=rfl
theorem rz (u:U) (d:Dd):(invP u d).2=(doP u d).2:=by
 unfold invP
 split
 ·rfl
 ·rename_i c;simp only[ne_eq,Classical.not_not]at c;rw[c]
theorem rI:∀{a b:List Dd} {u:U},allU u (a++b)=((allU (allU u a).1 b).1,(allU u a).2++(allU (allU u a).1 b).2)
 |[],b,u=>rfl
 |d::a,b,u=>by
  rw[cons_append,ln,ln]
  by_cases c:chg d.it.kind=false\/(invP u d).2≠0
  ·rw[if_pos c,if_pos c,rI]
  ·rw[if_neg c,if_neg c,rI]
   rfl
theorem iY:∀{l:List Dd} {u:U},Good u->u.kind=0->Good (allU u l).1/\(allU u l).1.kind=0
 |[],u,h,h0=>⟨h,h0⟩
 |d::l,u,h,h0=>by
  rw[ln]
  split
  ·exact iY h h0
  ·obtain⟨D,E⟩:=rd h d
   exact iY (u:=(doP u d).1) D (E.kind.trans h0)
theorem rR:∀{l:List Dd} {u:U},(allU u l).1=(allP u l).1/\(allU u l).2.length+(allP u l).2.length=(l.filter λd=>chg d.it.kind).length
 |[],u=>⟨rfl,rfl⟩
 |d::l,u=>by
  rw[ln,rA]
  by_cases c1:chg d.it.kind=false
  ·have e:fP u d=(u,[]):=by unfold fP;rw[if_pos c1]
   obtain⟨D,E⟩:=rR (l:=l) (u:=u)
   rw[if_pos (.inl c1),e,filter_cons_of_neg (by simp[c1])]
   exact⟨D,by simpa using E⟩
  ·have e:fP u d=((doP u d).1,rG d (doP u d).2):=by unfold fP;rw[if_neg c1]
   rw[e,filter_cons_of_pos (by simpa using c1)]
   by_cases c2:(invP u d).2≠0
   ·rw[if_pos (.inr c2)]
    rw[rz]at c2
    have F:(doP u d).1=u:=doP_err c2
    obtain⟨D,E⟩:=rR (l:=l) (u:=u)
    unfold rG
    simp only[if_neg c2,F]
    refine⟨D,?_⟩
    simp only[length_append,length_cons,length_nil]
    omega
   ·rw[if_neg (by rintro(e|e);exact c1 e;exact c2 e)]
    rw[rz]at c2
    obtain⟨D,E⟩:=rR (l:=l) (u:=(doP u d).1)
    unfold rG
    simp only[if_pos (Classical.not_not.1 c2)]
    refine⟨D,?_⟩
    simp only[length_append,length_cons,length_nil]
    omega
def Pt.cs (p:Pt):List AV:=[.int .i64 p.kind,.int .i64 p.at_,.int .i64 p.id.act,.int .i64 p.id.item,.int .i64 p.id.n,.int .i64 p.parent.act,.int .i64 p.parent.item,.int .i64 p.parent.n,.int .i64 p.unit.id.act,.int .i64 p.unit.id.item,.int .i64 p.unit.id.n,.int .i64 p.unit.kind,.str p.unit.label,.lst 4 (p.unit.head.map Wd.cs),.lst 4 (p.unit.words.map Wd.cs),.lst 8 (p.unit.kids.map U.cs),.str p.label,.lst 4 (p.words.map Wd.cs)]
theorem Pt.cs_len (p:Pt):p.cs.length=18:=rfl
def ey (l:List Wd):List UInt8:=(l.map λw=>32::w.text).flatten
def rD (p:Pt):List UInt8:=idTx p.id++([32,102,114,111,109,32]++(idTx p.parent++([32,97,116,32]++Lib.itoa p.at_)))
def fmtP (p:Pt):List UInt8:=
 if p.kind=0 then [105,110,115,101,114,116,101,100,32]++idTx p.id
 else if p.kind=1 then [114,101,109,111,118,101,100,32]++rD p
 else if p.kind=2 then [109,111,118,101,100,32]++rD p
 else if p.kind=3 then [108,97,98,101,108,32]++(idTx p.id++([32,119,97,115,32]++p.label))
 else if p.kind=4 then [119,111,114,100,115,32]++(idTx p.id++([32,119,101,114,101]++ey p.words))
 else if p.kind=5 then [104,101,97,100,105,110,103,32]++(idTx p.id++([32,119,97,115]++ey p.words))
 else []
theorem fmt_zero:fmtP zPt=[105,110,115,101,114,116,101,100,32,48,46,48,46,48]:=by
 unfold fmtP zPt
 rw[if_pos rfl]
 unfold idTx zId
 rw[fA (by decide) (by decide)]
 rfl
theorem ez {u:U} (h:Good u) (D:u.kind=0) {d:Dd} (E:1<=d.act):
  (invP u d).2=(doP u d).2/\((doP u d).2≠0->fmtP (invP u d).1=[105,110,115,101,114,116,101,100,32,48,46,48,46,48])/\((doP u d).2=0->revP (doP u d).1 (invP u d).1=(u,0)):=by
 refine⟨rz u d,λe=>?_,λe=>(sf h D e E).2⟩
 unfold invP
 rw[if_pos e]
 exact fmt_zero
end Go.Av
