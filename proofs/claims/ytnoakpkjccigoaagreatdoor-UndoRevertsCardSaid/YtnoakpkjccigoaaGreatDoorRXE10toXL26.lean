/-
  ENACT, 10: a book stays one: IDs, nodes, depth and number behind each item.
-/
import Derived.Test.YtnoakpkjccigoaaGreatDoorRXE7toXP1
import Derived.Test.YtnoakpkjccigoaaGreatDoorRXAv26toXGlob
import Derived.Test.YtnoakpkjccigoaaGreatDoorRXDattoXC1
import Derived.Test.YtnoakpkjccigoaaGreatDoorRXC2toXC3
namespace Go.Av
open Go Go.RowKit Go.Proofs List
set_option linter.unusedSimpArgs false
set_option linter.unusedVariables false
structure Good (u:U):Prop where
 nd:u.ids.Nodup
 node:∀y∈u.flat,nodeOk y=true
 dep:u.deep<=8
 cnt:u.flat.length<=1024
 root:u.kind=0↔u.id=zId
 zero:u.kind≠0->zId∉u.ids
theorem jd {p k:Int} (h:pl p k=true):k≠0:=by
 rintro rfl
 unfold pl at h
 revert h
 split<;>(try split)<;>(try split)<;>(try split)<;>(try split)<;>simp
theorem df {u:U} (h:nodeOk u=true):∀k∈u.kids,pl u.kind k.kind=true:=by
 unfold nodeOk at h
 simp only[Bool.and_eq_true]at h
 exact all_eq_true.1 h.2.1.1
theorem cT {u:U} (h:nodeOk u=true):u.kids.length<=64:=by
 unfold nodeOk at h
 simp only[Bool.and_eq_true,decide_eq_true_eq]at h
 have:=h.2.2
 omega
theorem Good.kind {u:U} (h:Good u) {i:Idd} (hi:i∈u.ids) (E:u.id≠i):(fnd i u).kind≠0:=by
 obtain⟨own,d,j,N,w2,F⟩:=bt h.nd hi E
 obtain⟨a,k,b,s,M,J,I⟩:=F.split
 have D:own∈u.flat:=by
  have:=aP u h.nd F.mem
  rw[F.fnd]at this;exact this
 rw[aB I]
 exact jd (df (h.node own D) k (by rw[s.eq];simp))
theorem ids_root {u:U} {A x B:List Idd} (e:u.ids=A++(x++B)) (D:A≠[]):∃A',A=u.id::A':=by
 rw[U.ids_eq]at e
 cases A with
 |nil=>exact absurd rfl D
 |cons a A'=>injection e with e1 e2;exact⟨A',by rw[e1]⟩
structure Root (u v:U):Prop where
 id:v.id=u.id
 kind:v.kind=u.kind
 label:v.label=u.label
 head:v.head=u.head
 words:v.words=u.words
theorem Root.refl (u:U):Root u u:=⟨rfl,rfl,rfl,rfl,rfl⟩
theorem Root.trans {u v w:U} (h:Root u v) (g:Root v w):Root u w:=⟨g.id.trans h.id,g.kind.trans h.kind,g.label.trans h.label,g.head.trans h.head,g.words.trans h.words⟩
theorem gC {u:U} {q:Idd} {g:List U->List U}:Root u (U.wth q (λy=>{y with kids:=g y.kids}) u):=
 ⟨eM (f:=λy=>{y with kids:=g y.kids}) U.id (λ_=>rfl) (λ_ _=>rfl) u,eM (f:=λy=>{y with kids:=g y.kids}) U.kind (λ_=>rfl) (λ_ _=>rfl) u,eM (f:=λy=>{y with kids:=g y.kids}) U.label (λ_=>rfl) (λ_ _=>rfl) u,eM (f:=λy=>{y with kids:=g y.kids}) U.head (λ_=>rfl) (λ_ _=>rfl) u,eM (f:=λy=>{y with kids:=g y.kids}) U.words (λ_=>rfl) (λ_ _=>rfl) u⟩
theorem oR {u:U} {i:Idd} {f:U->U} (h:u.id≠i):Root u (U.wth i f u):=by
 rw[U.wth_eq,if_neg h]
 exact⟨rfl,rfl,rfl,rfl,rfl⟩
theorem nh (A x B:List Idd):(A++(x++B)).Perm ((A++B)++x):=by
 rw[append_assoc]
 exact List.Perm.append_left A perm_append_comm
theorem ids_ins {u:U} (F:u.ids.Nodup) {q:Idd} (I:q∈u.ids) (k:Nat) (x:U):∃A B,A≠[]/\u.ids=A++B/\(U.wth q (λy=>{y with kids:=l8 y.kids k x}) u).ids=A++(x.ids++B):=by
 obtain⟨l,r,D,E⟩:=gO (f:=λy=>{y with kids:=l8 y.kids k x}) u F I
 refine⟨l++((fnd q u).id::U.idss ((fnd q u).kids.take k)),U.idss ((fnd q u).kids.drop k)++r,by simp,?_,?_⟩
 ·rw[D,U.ids_eq]
  conv=>lhs;rw[←take_append_drop k (fnd q u).kids]
  rw[U.idss_app];simp[append_assoc]
 ·rw[E,U.ids_eq]
  unfold l8
  simp only
  rw[U.idss_app,U.idss_cons];simp[append_assoc]
theorem flat_ins {y x:U} {k:Nat}:∀z∈({y with kids:=l8 y.kids k x}:U).flat,z={y with kids:=l8 y.kids k x}\/z∈U.flats y.kids\/z∈x.flat:=by
 intro z D
 rw[U.flat_eq]at D
 simp only[l8]at D
 rw[cJ,pk,mem_cons,mem_append,mem_append]at D
 have e:U.flats y.kids=U.flats (y.kids.take k)++U.flats (y.kids.drop k):=by rw[←cJ,take_append_drop]
 rw[e,mem_append]
 rcases D with D|D|D|D
 ·exact .inl D
 ·exact .inr (.inl (.inl D))
 ·exact .inr (.inr D)
 ·exact .inr (.inl (.inr D))
theorem deep_ins {y x:U} {k:Nat}:({y with kids:=l8 y.kids k x}:U).deep<=max y.deep (1+x.deep):=by
 rw[U.deep_eq,U.deep_eq y]
 unfold l8
 simp only
 rw[eh,U.deeps]
 have e:U.deeps y.kids=max (U.deeps (y.kids.take k)) (U.deeps (y.kids.drop k)):=by rw[←eh,take_append_drop]
 omega
theorem nP {u:U} (h:Good u) {q:Idd} (O:q∈u.ids) {x:U} (hx:∀z∈x.flat,nodeOk z=true) (ad:(u.ids++x.ids).Nodup) (E:zId∉x.ids) (k:Nat)
  (ht:¬dR (fnd q u) (fnd q u).kids x≠0) (hl:(fnd q u).kids.length<64) (hd:(U.way q u).length+x.deep<=8) (hc:u.flat.length+x.flat.length<=1024):Good (U.wth q (λy=>{y with kids:=l8 y.kids k x}) u):=by
 obtain⟨A,B,hA,e1,e2⟩:=ids_ins h.nd O k x
 have hp:(U.wth q (λy=>{y with kids:=l8 y.kids k x}) u).ids.Perm (u.ids++x.ids):=by rw[e1,e2];exact nh A x.ids B
 have hr:Root u (U.wth q (λy=>{y with kids:=l8 y.kids k x}) u):=gC (g:=λl=>l8 l k x)
 have hf:=aP u h.nd O
 have D:=h.node _ hf
 refine⟨hp.nodup_iff.2 ad,?_,?_,?_,?_,?_⟩
 ·refine gE (f:=λy=>{y with kids:=l8 y.kids k x}) (λ_=>rfl) u h.nd O h.node ?_
  intro z E
  rcases flat_ins z E with rfl|E|E
  ·have V:pl (fnd q u).kind x.kind=true/\pn (fnd q u).kids x.kind x.label=false:=by
    unfold dR at ht
    cases h1:pl (fnd q u).kind x.kind<;>cases M:pn (fnd q u).kids x.kind x.label<;>simp[h1,M]at ht ⊢
   unfold nodeOk at D ⊢
   simp only[Bool.and_eq_true,decide_eq_true_eq]at D ⊢
   have I:=take_append_drop k (fnd q u).kids
   refine⟨D.1,⟨?_,?_⟩,?_⟩
   ·have:=D.2.1.1
    rw[←I,all_append]at this
    unfold l8
    rw[all_append,all_cons,V.1,Bool.true_and]
    exact this
   ·have:=D.2.1.2
    unfold pr at this ⊢
    unfold l8
    have M:=V.2
    unfold pn at M
    rw[any_eq_false]at M
    have Z:(x.kind,x.label)∉(fnd q u).kids.map λk=>(k.kind,k.label):=by
     intro J
     obtain⟨y,N,e⟩:=mem_map.1 J
     have:=M y N
     injection e with e3 e4
     simp[e3,e4]at this
    have ac:(((fnd q u).kids.take k++x::(fnd q u).kids.drop k).map λk=>(k.kind,k.label)).Perm ((x.kind,x.label)::(fnd q u).kids.map λk=>(k.kind,k.label)):=by
     have:((fnd q u).kids.take k++x::(fnd q u).kids.drop k).Perm (x::(fnd q u).kids):=by
      have:=perm_middle (a:=x) (l₁:=(fnd q u).kids.take k) (l₂:=(fnd q u).kids.drop k)
      rw[I]at this
      exact this
     exact this.map _
    exact ac.nodup_iff.2 (nodup_cons.2 ⟨Z,this⟩)
   ·unfold l8
    have:((fnd q u).kids.take k++x::(fnd q u).kids.drop k).length=(fnd q u).kids.length+1:=by
     conv=>rhs;rw[←I]
     simp;omega
    rw[this];omega
  ·exact h.node z (by
    have:z∈(fnd q u).flat:=by rw[U.flat_eq];exact mem_cons_of_mem _ E
    obtain⟨y,N,E⟩:=bN E
    have X:=dM hf N
    have T:∀{v:U},v∈u.flat->∀w∈v.flat,w∈u.flat:=by
     intro v Y w F
     revert F
     revert Y
     revert w
     refine U.ind (p:=λv=>∀w,v∈u.flat->w∈v.flat->w∈u.flat) (λv ih w Y F=>?_) v
     rw[U.flat_eq]at F
     rcases mem_cons.1 F with rfl|F
     ·exact Y
     ·obtain⟨y,N,F⟩:=bN F
      exact ih y N w (dM Y N) F
    exact T X z E)
  ·exact hx z E
 ·have:=(gb (f:=λy=>{y with kids:=l8 y.kids k x}) u h.nd O)
  have M:=deep_ins (y:=fnd q u) (x:=x) (k:=k)
  have h3:=h.dep
  have h4:=gH O
  omega
 ·have:=hp.length_eq
  rw[length_append,U.ids_len,U.ids_len,U.ids_len]at this
  omega
 ·rw[hr.kind,hr.id];exact h.root
 ·intro X J
  rw[hr.kind]at X
  have:=hp.mem_iff.1 J
  rcases mem_append.1 this with J|J
  ·exact h.zero X J
  ·exact E J
theorem dD {u v:U} (E:v∈u.flat):∀w∈v.flat,w∈u.flat:=by
 intro w D
 revert D
 revert E
 revert w
 refine U.ind (p:=λv=>∀w,v∈u.flat->w∈v.flat->w∈u.flat) (λv ih w E D=>?_) v
 rw[U.flat_eq]at D
 rcases mem_cons.1 D with rfl|D
 ·exact E
 ·obtain⟨y,F,D⟩:=bN D
  exact ih y F w (dM E F) D
theorem cN {u:U} (h:Good u) {i:Idd} (hi:i∈u.ids) (X:u.id≠i):Good (l7 i u)/\Root u (l7 i u)/\(l7 i u).deep<=u.deep/\(∃A B,A≠[]/\u.ids=A++((fnd i u).ids++B)/\(l7 i u).ids=A++B):=by
 obtain⟨own,d,j,w1,w2,J⟩:=bt h.nd hi X
 obtain⟨a,x,b,s,hx,hj,hl⟩:=J.split
 have V:fnd i u=x:=aB hl
 subst hj
 have hW:l7 i u=U.wth own.id (λy=>{y with kids:=pm y.kids a.length}) u:=by unfold l7;rw[w1]
 rw[hW,V]
 obtain⟨l,r,Z,T⟩:=gO (f:=λy=>{y with kids:=pm y.kids a.length}) u h.nd J.mem
 rw[J.fnd]at Z T
 rw[s.eq,bO]at T
 have N:∃A B,A≠[]/\u.ids=A++(x.ids++B)/\(U.wth own.id (λy=>{y with kids:=pm y.kids a.length}) u).ids=A++B:=by
  refine⟨l++(own.id::U.idss a),U.idss b++r,by simp,?_,?_⟩
  ·rw[Z,U.ids_eq,s.eq,U.idss_app,U.idss_cons];simp[append_assoc]
  ·rw[T,U.ids_eq]
   simp only
   rw[U.idss_app];simp[append_assoc]
 have O:Root u (U.wth own.id (λy=>{y with kids:=pm y.kids a.length}) u):=gC (g:=λl=>pm l a.length)
 have F:own∈u.flat:=by
  have:=aP u h.nd J.mem
  rw[J.fnd]at this;exact this
 obtain⟨A,B,hA,f1,f2⟩:=N
 have I:(U.wth own.id (λy=>{y with kids:=pm y.kids a.length}) u).ids.Sublist u.ids:=by
  rw[f1,f2]
  exact(List.Sublist.refl A).append (sublist_append_right _ _)
 have M:(U.wth own.id (λy=>{y with kids:=pm y.kids a.length}) u).deep<=u.deep:=by
  have h1:=(gb (f:=λy=>{y with kids:=pm y.kids a.length}) u h.nd J.mem)
  rw[J.fnd]at h1
  have h2:({own with kids:=pm own.kids a.length}:U).deep<=own.deep:=by
   rw[U.deep_eq,U.deep_eq own,s.eq]
   simp only
   rw[bO,eh,eh,U.deeps]
   omega
  omega
 refine⟨⟨h.nd.sublist I,?_,Nat.le_trans M h.dep,?_,?_,?_⟩,O,M,A,B,hA,f1,f2⟩
 ·refine gE (f:=λy=>{y with kids:=pm y.kids a.length}) (λ_=>rfl) u h.nd J.mem h.node ?_
  rw[J.fnd]
  intro z E
  rw[U.flat_eq]at E
  simp only at E
  rw[s.eq,bO,cJ,mem_cons,mem_append]at E
  rcases E with rfl|E|E
  ·have D:=h.node own F
   unfold nodeOk at D ⊢
   simp only[Bool.and_eq_true,decide_eq_true_eq]at D ⊢
   rw[s.eq]at D
   refine⟨D.1,⟨?_,?_⟩,?_⟩
   ·have:=D.2.1.1
    rw[all_append,all_cons,Bool.and_eq_true,Bool.and_eq_true]at this
    rw[all_append,this.1,this.2.2];rfl
   ·have:=D.2.1.2
    unfold pr at this ⊢
    refine this.sublist (List.Sublist.map _ ?_)
    exact(List.Sublist.refl a).append (sublist_cons_self _ _)
   ·have:=D.2.2
    simp at this ⊢
    omega
  ·obtain⟨y,Y,E⟩:=bN E
   exact h.node z (dD F z (U.flat_kid (by rw[s.eq];simp[Y]) E))
  ·obtain⟨y,Y,E⟩:=bN E
   exact h.node z (dD F z (U.flat_kid (by rw[s.eq];simp[Y]) E))
 ·have:=I.length_le
  rw[U.ids_len,U.ids_len]at this
  exact Nat.le_trans this h.cnt
 ·rw[O.kind,O.id];exact h.root
 ·intro hk hm
  rw[O.kind]at hk
  exact h.zero hk (I.subset hm)
/-! ### stamps -/
theorem U.stamp_eq (a b:Int) (u:U) (n m:Int):U.stamp a b u n m=(⟨⟨a,b,n⟩,u.kind,u.label,aX a b (u.head.map Wd.text) m,aX a b (u.words.map Wd.text) (m+u.head.length),(U.stamps a b u.kids (n+1) (m+u.head.length+u.words.length)).1⟩,(U.stamps a b u.kids (n+1) (m+u.head.length+u.words.length)).2):=by
 cases u;rw[U.stamp]
theorem U.stamps_nil (a b:Int) (n m:Int):U.stamps a b [] n m=([],n,m):=by rw[U.stamps]
theorem U.stamps_cons (a b:Int) (u:U) (us:List U) (n m:Int):U.stamps a b (u::us) n m=((U.stamp a b u n m).1::(U.stamps a b us (U.stamp a b u n m).2.1 (U.stamp a b u n m).2.2).1,(U.stamps a b us (U.stamp a b u n m).2.1 (U.stamp a b u n m).2.2).2):=by rw[U.stamps]
def idRow (a b n:Int) (k:Nat):List Idd:=(List.range k).map λj:Nat=>(⟨a,b,n+(j:Int)⟩:Idd)
theorem lu (a b n:Int) (k l:Nat):idRow a b n (k+l)=idRow a b n k++idRow a b (n+k) l:=by
 unfold idRow
 rw[range_add,map_append,map_map]
 congr 1
 refine map_congr_left λj _=>?_
 simp only[Function.comp]
 congr 1
 omega
theorem idRow_nd (a b n:Int) (k:Nat):(idRow a b n k).Nodup:=by
 unfold idRow
 refine pairwise_map.2 (List.Pairwise.imp (λh e=>h ?_) (nodup_range (n:=k)))
 injection e with _ _ e
 omega
structure StampOk (a b:Int) (u:U) (n m:Int) (q:U×Int×Int):Prop where
 ids:q.1.ids=idRow a b n u.flat.length
 next:q.2.1=n+u.flat.length
 deep:q.1.deep=u.deep
 len:q.1.flat.length=u.flat.length
 key:q.1.key=u.key
 node:∀z∈q.1.flat,∃y∈u.flat,nodeOk z=nodeOk y
structure StampsOk (a b:Int) (us:List U) (n m:Int) (q:List U×Int×Int):Prop where
 ids:U.idss q.1=idRow a b n (U.flats us).length
 next:q.2.1=n+(U.flats us).length
 deep:U.deeps q.1=U.deeps us
 len:(U.flats q.1).length=(U.flats us).length
 key:q.1.map U.key=us.map U.key
 node:∀z∈U.flats q.1,∃y∈U.flats us,nodeOk z=nodeOk y
theorem k9 (a b:Int) (l:List Wd) (m:Int):aU (aX a b (l.map Wd.text) m)=aU l/\(aX a b (l.map Wd.text) m).length=l.length:=by
 have D:(aX a b (l.map Wd.text) m).length=l.length:=by rw[cH,length_map]
 have E:∀(l:List Wd) (m:Int),(aX a b (l.map Wd.text) m).all wdOk=l.all wdOk:=by
  intro l
  induction l with
  |nil=>intro m;rfl
  |cons w l ih=>intro m;rw[map_cons,aX,all_cons,all_cons,ih];rfl
 unfold aU
 rw[D,E]
 exact⟨rfl,rfl⟩
theorem gL (a b:Int):∀{us:List U},(∀k∈us,∀n m,StampOk a b k n m (U.stamp a b k n m))->∀n m,StampsOk a b us n m (U.stamps a b us n m)
 |[],_,n,m=>by
  rw[U.stamps_nil]
  refine⟨?_,?_,rfl,rfl,rfl,?_⟩
  ·rw[U.idss_nil,pp];rfl
  ·rw[pp];simp
  ·intro z D;rw[pp]at D;cases D
 |u::us,h,n,m=>by
  obtain⟨N,F,I,V,k1,Y⟩:=h u (by simp) n m
  have ih:=gL a b (us:=us) (λk M=>h k (by simp[M])) (U.stamp a b u n m).2.1 (U.stamp a b u n m).2.2
  obtain⟨O,x2,J,X,T,Z⟩:=ih
  rw[U.stamps_cons]
  refine⟨?_,?_,?_,?_,?_,?_⟩
  ·simp only
   rw[U.idss_cons,N,O,F,pk,length_append,lu]
  ·simp only
   rw[x2,F,pk,length_append];omega
  ·simp only
   rw[U.deeps,U.deeps,I,J]
  ·simp only
   rw[pk,pk,length_append,length_append,V,X]
  ·simp only
   rw[map_cons,map_cons,k1,T]
  ·intro z D
   simp only at D
   rw[pk,mem_append]at D
   rcases D with D|D
   ·obtain⟨y,E,e⟩:=Y z D
    exact⟨y,by rw[pk];exact mem_append.2 (.inl E),e⟩
   ·obtain⟨y,E,e⟩:=Z z D
    exact⟨y,by rw[pk];exact mem_append.2 (.inr E),e⟩
theorem kh (a b:Int):∀u:U,∀n m,StampOk a b u n m (U.stamp a b u n m):=by
 refine U.ind λu ih n m=>?_
 obtain⟨I,O,E,M,J,N⟩:=gL a b ih (n+1) (m+u.head.length+u.words.length)
 rw[U.stamp_eq]
 refine⟨?_,?_,?_,?_,rfl,?_⟩
 ·rw[U.ids_eq]
  simp only
  rw[I,U.flat_eq u,length_cons,Nat.add_comm,lu]
  unfold idRow
  simp
 ·simp only
  rw[O,U.flat_eq u,length_cons];omega
 ·rw[U.deep_eq,U.deep_eq u];exact E
 ·rw[U.flat_eq,U.flat_eq u,length_cons,length_cons];simp only;rw[M]
 ·intro z D
  rw[U.flat_eq]at D
  rcases mem_cons.1 D with rfl|D
  ·refine⟨u,u.flat_self,fQ rfl rfl ?_ ?_ J⟩
   ·exact k9 a b u.head m
   ·exact k9 a b u.words _
  ·obtain⟨y,F,e⟩:=N z D
   exact⟨y,by rw[U.flat_eq];exact mem_cons_of_mem _ F,e⟩
theorem je (u:U) (a b:Int) (h:∀y∈u.flat,nodeOk y=true):(cz u a b).ids=idRow a b 1 u.flat.length/\(cz u a b).deep=u.deep/\(cz u a b).flat.length=u.flat.length/\(cz u a b).key=u.key/\∀z∈(cz u a b).flat,nodeOk z=true:=by
 obtain⟨I,N,D,J,k1,M⟩:=kh a b u 1 0
 refine⟨I,D,J,k1,λz F=>?_⟩
 obtain⟨y,E,e⟩:=M z F
 rw[e];exact h y E
theorem pj (a b:Int) (k:Nat):zId∉idRow a b 1 k:=by
 intro h
 obtain⟨j,_,e⟩:=mem_map.1 h
 injection e with _ _ e
 omega
/-! ### words -/
theorem iS {a b:Int}:∀{l:List (List UInt8)} {m:Int},l.all bf=true->(aX a b l m).all wdOk=true
 |[],_,_=>rfl
 |s::l,m,h=>by
  rw[all_cons,Bool.and_eq_true]at h
  rw[aX,all_cons,Bool.and_eq_true]
  exact⟨h.1,iS h.2⟩
theorem all_take {α:Type} {p:α->Bool} {l:List α} (h:l.all p=true) (k:Nat):(l.take k).all p=true:=all_eq_true.2 λx D=>all_eq_true.1 h x (mem_of_mem_take D)
theorem nB {α:Type} {p:α->Bool} {l:List α} (h:l.all p=true) (k:Nat):(l.drop k).all p=true:=all_eq_true.2 λx D=>all_eq_true.1 h x (mem_of_mem_drop D)
theorem kW {w:List Wd} {D:List (List UInt8)} {a b:Int} {E:Nat} (F:w.all wdOk=true) (I:D.all bf=true):∀(ps:List Nat) (s:Nat) (m:Int),(fJ w D a b E s ps m).all wdOk=true
 |[],s,m=>by rw[fJ];exact nB F s
 |p::ps,s,m=>by
  rw[fJ,all_append,all_append,nB (all_take F p) s,iS I,kW F I ps];rfl
theorem dB {l:List (List UInt8)} (h:dq l=true):l.all bf=true/\l.length<=256:=by
 unfold dq at h
 simp only[Bool.and_eq_true,decide_eq_true_eq]at h
 exact⟨h.2,by omega⟩
theorem rowOk_all {l:List Wd} (h:aU l=true):l.all wdOk=true:=by
 unfold aU at h
 simp only[Bool.and_eq_true]at h
 exact h.2
theorem iM {l:List Wd} (h:l.all wdOk=true) (D:¬256<l.length):aU l=true:=by
 unfold aU
 rw[h,decide_eq_true (by omega)];rfl
theorem editE_ok {w:List Wd} {x:Itm} {a b:Int} (T:aU w=true) (O:dq x.new=true) (D:(bJ w x a b).2=0):aU (bJ w x a b).1=true:=by
 have I:=rowOk_all T
 have J:=(dB O).1
 unfold bJ at D ⊢
 split
 ·split
  ·rename_i M E;rw[if_pos M,if_pos E]at D;cases D
  ·rename_i E
   exact iM (by rw[all_append,iS J,I];rfl) E
 ·rename_i M
  rw[if_neg M]at D
  split
  ·rename_i E;rw[if_pos E]at D;cases D
  ·rename_i E
   rw[if_neg E]at D
   split
   ·rename_i N
    rw[if_pos N]at D
    split
    ·rename_i F;rw[if_pos F]at D;cases D
    ·rename_i F;exact iM (kW I J _ _ _) F
   ·rename_i N
    rw[if_neg N]at D
    split
    ·rename_i F;rw[if_pos F]at D;cases D
    ·rename_i F;exact iM (kW I J _ _ _) F
theorem io {u:U} (h:Good u) {i:Idd} (hi:i∈u.ids) (I:u.id≠i) {f:U->U} (hid:∀y,(f y).id=y.id) (D:∀y,(f y).kids=y.kids) (N:∀z∈(U.wth i f u).flat,nodeOk z=true):Good (U.wth i f u)/\Root u (U.wth i f u):=by
 have E:Root u (U.wth i f u):=oR I
 obtain⟨l,r,J,M⟩:=gO (f:=f) u h.nd hi
 have F:(U.wth i f u).ids=u.ids:=by rw[J,M,U.ids_eq,hid,D,U.ids_eq (fnd i u)]
 refine⟨⟨by rw[F];exact h.nd,N,?_,?_,?_,?_⟩,E⟩
 ·have O:=gb (f:=f) u h.nd hi
  have T:(f (fnd i u)).deep=(fnd i u).deep:=by rw[U.deep_eq,U.deep_eq (fnd i u),D]
  have V:=h.dep
  omega
 ·have:=congrArg List.length F
  rw[U.ids_len,U.ids_len]at this
  rw[this];exact h.cnt
 ·rw[E.kind,E.id];exact h.root
 ·rw[E.kind,F];exact h.zero
theorem fp {y:U} (h:nodeOk y=true) (D:y.kind≠0):br y.label=true/\aU y.head=true/\aU y.words=true:=by
 unfold nodeOk own1 at h
 rw[if_neg D]at h
 simp only[Bool.and_eq_true]at h
 exact⟨h.1.2.1,h.1.2.2.1,h.1.2.2.2⟩
theorem oy {y:U} (h:nodeOk y=true) (D:y.kind≠0) {w:List Wd} (E:aU w=true):nodeOk {y with words:=w}=true:=by
 unfold nodeOk own1 at h ⊢
 simp only at h ⊢
 rw[if_neg D]at h ⊢
 rw[E,Bool.and_true]
 simp only[Bool.and_eq_true]at h ⊢
 exact⟨⟨h.1.1,h.1.2.1,h.1.2.2.1⟩,h.2⟩
theorem node_head {y:U} (h:nodeOk y=true) (D:y.kind≠0) {w:List Wd} (E:aU w=true):nodeOk {y with head:=w}=true:=by
 unfold nodeOk own1 at h ⊢
 simp only at h ⊢
 rw[if_neg D]at h ⊢
 rw[E,Bool.true_and]
 simp only[Bool.and_eq_true]at h ⊢
 exact⟨⟨h.1.1,h.1.2.1,h.1.2.2.2⟩,h.2⟩
theorem kx {y z:U} (h:z.kids=y.kids):∀v∈z.flat,v=z\/v∈y.flat:=by
 intro v D
 rw[U.flat_eq,h]at D
 rcases mem_cons.1 D with rfl|D
 ·exact .inl rfl
 ·exact .inr (by rw[U.flat_eq];exact mem_cons_of_mem _ D)
theorem gj {x:Itm} (h:x.may=true):x.own (Itm.mayOne x.by_)=true:=by
 rw[Itm.may_eq,Bool.and_eq_true]at h
 exact h.2
theorem fd {x:Itm} (h:x.may=true) (D:x.kind=0\/x.kind=6):0<=x.wh/\x.wh<=3:=by
 have:=gj h
 unfold Itm.own inR at this
 rcases D with D|D<;>simp[D]at this<;>omega
theorem mp {x:Itm} (h:x.may=true) (D:x.kind=2\/x.kind=3\/x.kind=4):dq x.new=true:=by
 have:=gj h
 unfold Itm.own cX at this
 rcases D with D|D|D<;>simp[D]at this<;>simp[this]
theorem pg {x:Itm} (h:x.may=true) (D:x.kind=5):br x.label=true:=by
 have:=gj h
 unfold Itm.own at this
 simpa[D]using this
theorem kD {x:Itm} (h:x.may=true) (E:x.kind=0):∀y∈x.unit.flat,nodeOk y=true:=by
 have:=gj h
 unfold Itm.own at this
 simp only[E,if_true,Bool.and_eq_true]at this
 have D:=this.2.1
 rw[gZ]at D
 unfold pN pq at D
 simp only[Bool.and_eq_true]at D
 exact all_eq_true.1 D.1.1
theorem iy {u:U} (E:u.ids.Nodup) {i q:Idd} (hi:i∈u.ids) {wh:Int} {k:Nat} (h:spot u i wh=some (q,k)):q∈u.ids:=by
 unfold spot at h
 split at h
 ·injection h with h;injection h with h1 h2;subst h1;exact hi
 ·split at h
  ·injection h with h;injection h with h1 h2;subst h1;exact hi
  ·obtain⟨⟨p,d,j⟩,e,D⟩:=Option.map_eq_some_iff.1 h
   injection D with e3 e4
   subst e3
   exact(et u E hi e).mem
theorem ins_good {u:U} (h:Good u) {i:Idd} (hi:i∈u.ids) {d:Dd} (T:d.it.may=true) (O:d.it.kind=0):Good (insP u i d).1/\Root u (insP u i d).1:=by
 unfold insP
 split
 ·exact⟨h,Root.refl u⟩
 ·rename_i q k e
  have V:=iy h.nd hi e
  obtain⟨s1,s2,s3,s4,s5⟩:=je d.it.unit d.act d.item (kD T O)
  obtain⟨x,Y⟩:∃x,cz d.it.unit d.act d.item=x:=⟨_,rfl⟩
  rw[Y]at s1 s2 s3 s4 s5 ⊢
  split
  ·exact⟨h,Root.refl u⟩
  ·rename_i X
   split
   ·exact⟨h,Root.refl u⟩
   ·rename_i I
    split
    ·exact⟨h,Root.refl u⟩
    ·rename_i E
     simp only[not_or,Int.not_le,Int.not_lt,Nat.not_le]at I
     obtain⟨f1,f2,f3⟩:=I
     have D:∀y∈x.ids,y∉u.ids:=by
      intro y Z F
      exact E (any_eq_true.2 ⟨y,Z,decide_eq_true F⟩)
     refine⟨nP h V s5 ?_ ?_ k X f1 ?_ ?_,gC (g:=λl=>l8 l k x)⟩
     ·rw[nodup_append]
      refine⟨h.nd,by rw[s1];exact idRow_nd _ _ _ _,?_⟩
      intro a M b N J
      subst J
      exact D a N M
     ·rw[s1];exact pj _ _ _
     ·unfold U.dep at f2;omega
     ·unfold U.cnt at f3;omega
theorem mov_good {u:U} (h:Good u) {i t:Idd} (hi:i∈u.ids) (M:u.id≠i) (ht:t∈u.ids) {d:Dd} (h0:0<=d.it.wh) (h3:d.it.wh<=3):Good (movP u i t d).1/\Root u (movP u i t d).1:=by
 obtain⟨g1,g2,g3,A,B,hA,I,e2⟩:=cN h hi M
 obtain⟨own,dO,j,w1,w2,E⟩:=bt h.nd hi M
 obtain⟨a,x,b,s,hx,hj,hl⟩:=E.split
 have ah:fnd i u=x:=aB hl
 have ba:=aP u h.nd hi
 unfold movP
 split
 ·exact⟨h,Root.refl u⟩
 ·rename_i q k e
  split
  ·exact⟨h,Root.refl u⟩
  ·rename_i aw
   split
   ·exact⟨h,Root.refl u⟩
   ·rename_i hf
    rw[not_or]at hf
    obtain⟨f1,f2⟩:=hf
    have hq:q∈(l7 i u).ids:=by
     have T:q∈u.ids/\q∉(fnd i u).ids:=by
      unfold dY at e
      rw[w1]at e
      simp only at e
      split at e
      ·cases e
      ·rename_i hc
       rw[not_or]at hc
       split at e
       ·injection e with e;injection e with e3 e4
        subst e3
        refine⟨E.mem,?_⟩
        rw[ah]
        have:=(U.nd_kids E.nd).2
        rw[s.eq,U.idss_app,U.idss_cons]at this
        exact λD=>this (mem_append.2 (.inr (mem_append.2 (.inl D))))
       ·rename_i an
        obtain⟨⟨q',k'⟩,X,e6⟩:=Option.map_eq_some_iff.1 e
        injection e6 with e7 e8
        subst e7
        have hr:¬(besides d.it.wh=true/\t=u.id):=by
         rintro⟨r1,r2⟩
         have Y:d.it.wh=2\/d.it.wh=3:=by simpa[besides]using r1
         unfold spot at X
         rw[cB r2.symm]at X
         rcases Y with Y|Y<;>simp[Y]at X
        obtain⟨P,dp,k2,hg⟩:=jP h.nd ht h0 h3 hr
        have:=hg.spot
        rw[X]at this
        injection this with this
        injection this with e9 e10
        simp only at e9 ⊢
        rw[e9]
        refine⟨hg.mem,hg.out i hi λD=>?_⟩
        exact hc.1 ((gl u h.nd ht hi).2 ⟨an,D⟩)
     rw[e2]
     have:=T.1
     rw[I]at this
     rcases mem_append.1 this with D|D
     ·exact mem_append.2 (.inl D)
     ·rcases mem_append.1 D with D|D
      ·exact absurd D T.2
      ·exact mem_append.2 (.inr D)
    have F:((l7 i u).ids++(fnd i u).ids).Perm u.ids:=by
     rw[e2,I];exact(nh A _ B).symm
    refine⟨nP g1 hq (λz Z=>h.node z (dD ba z Z)) (F.nodup_iff.2 h.nd) ?_ k aw ?_ ?_ ?_,g2.trans (gC (g:=λl=>l8 l k (fnd i u)))⟩
    ·intro Z
     by_cases J:u.kind=0
     ·have hr:=h.root.1 J
      have hn:=h.nd
      rw[I]at hn
      obtain⟨A',ac⟩:=ids_root I hA
      subst ac
      rw[cons_append,nodup_cons]at hn
      exact hn.1 (by rw[hr];exact mem_append.2 (.inr (mem_append.2 (.inl Z))))
     ·exact h.zero J (mK h.nd hi Z)
    ·by_cases O:q=own.id
     ·
      subst O
      have hW:l7 i u=U.wth own.id (λy=>{y with kids:=pm y.kids j}) u:=by unfold l7;rw[w1]
      have N:own∈u.flat:=by
       have:=aP u h.nd E.mem
       rw[E.fnd]at this;exact this
      have al:own.id∉x.ids:=by
       have:=(U.nd_kids E.nd).2
       rw[s.eq,U.idss_app,U.idss_cons]at this
       exact λD=>this (mem_append.2 (.inr (mem_append.2 (.inl D))))
      subst hj
      have V:=way_out (t:=own.id) h.nd E s.eq al
      have ad:fnd own.id (l7 i u)={own with kids:=a++b}:=by
       rw[hW]
       refine aB ?_
       rw[V,getLast?_map,E.last,Option.map_some,bA rfl,s.eq,bO]
      rw[ad]
      have:=cT (h.node own N)
      rw[s.eq]at this
      simp at this ⊢
      omega
     ·rw[w2]at f1
      apply Classical.byContradiction
      intro hc
      exact f1 ⟨O,by omega⟩
    ·unfold U.dep at f2;omega
    ·have:=congrArg List.length I
     have e3:=congrArg List.length e2
     rw[U.ids_len,length_append,length_append,U.ids_len]at this
     rw[U.ids_len,length_append]at e3
     have:=h.cnt
     omega
theorem fz {u:U} (h:Good u) (d:Dd):Good (doP u d).1/\Root u (doP u d).1:=by
 have M:Good u/\Root u u:=⟨h,Root.refl u⟩
 unfold doP
 split
 ·exact M
 rename_i c1
 have O:d.it.may=true:=by cases hh:d.it.may<;>simp_all
 split
 ·exact M
 rename_i c2
 have hi:=bZ (u:=u) (p:=d.it.at_) (by simpa using c2)
 obtain⟨i,Y⟩:∃i,(one u d.it.at_).1=i:=⟨_,rfl⟩
 rw[Y]at hi ⊢
 split
 ·rename_i k0
  exact ins_good h hi O k0
 rename_i k0
 split
 ·split<;>exact M
 rename_i Z
 have D:u.id≠i:=λe=>Z e.symm
 have V:=h.kind hi D
 have I:=aP u h.nd hi
 have F:=h.node _ I
 split
 ·have:=cN h hi D
  exact⟨this.1,this.2.1⟩
 split
 ·rename_i k2
  split
  ·exact M
  ·rename_i he
   have N:=editE_ok (a:=d.act) (b:=d.item) (fp F V).2.2 (mp O (by omega)) (by simpa using he)
   refine io h hi D (λ_=>rfl) (λ_=>rfl) (gE (f:=λy=>{y with words:=(bJ (fnd i u).words d.it d.act d.item).1}) (λ_=>rfl) u h.nd hi h.node λz J=>?_)
   rcases kx (y:=fnd i u) (z:={fnd i u with words:=(bJ (fnd i u).words d.it d.act d.item).1}) rfl z J with rfl|J
   ·exact oy F V N
   ·exact h.node z (dD I z J)
 split
 ·rename_i k4
  have N:aU (aX d.act d.item d.it.new 0)=true:=by
   have:=dB (mp O (.inr (.inr k4)))
   exact iM (iS this.1) (by rw[cH];omega)
  refine io h hi D (λ_=>rfl) (λ_=>rfl) (gE (f:=λy=>{y with head:=aX d.act d.item d.it.new 0}) (λ_=>rfl) u h.nd hi h.node λz J=>?_)
  rcases kx (y:=fnd i u) (z:={fnd i u with head:=aX d.act d.item d.it.new 0}) rfl z J with rfl|J
  ·exact node_head F V N
  ·exact h.node z (dD I z J)
 split
 ·rename_i k5
  split
  ·exact M
  ·rename_i T
   refine io h hi D (λ_=>rfl) (λ_=>rfl) (nT u h.nd hi D h.node (pg O k5) (λp dd j e=>?_) V)
   have hp:=et u h.nd hi e
   obtain⟨a,k,b,s,an,hj,hl⟩:=hp.split
   have ah:(parR i u).1=p:=by unfold parR;rw[par_way u h.nd hi,e];rfl
   rw[ah]at T
   have ad:p∈u.flat:=by
    have:=aP u h.nd hp.mem
    rw[hp.fnd]at this;exact this
   have E:=df (h.node p ad) k (by rw[s.eq];simp)
   have X:fnd i u=k:=aB hl
   rw[X]at T ⊢
   cases al:pn p.kids k.kind d.it.label with
   |false=>rfl
   |true=>exact absurd (by unfold dR;simp only;rw[E,al];simp) T
 split
 ·exact M
 rename_i c7
 have T:=bZ (u:=u) (p:=d.it.to_) (by simpa using c7)
 have ac:d.it.kind=6:=by
  have:chg d.it.kind=true:=by cases hh:chg d.it.kind<;>simp_all
  simp only[chg,Bool.and_eq_true,decide_eq_true_eq]at this
  omega
 have N:=fd O (.inr ac)
 exact mov_good h hi D T N.1 N.2
theorem nO {s:List UInt8} (h:br s=true):s.length<=7:=by
 unfold br at h
 simp only[Bool.and_eq_true,decide_eq_true_eq]at h
 omega
theorem lD {l:List Wd} (h:aU l=true):l.length<=256/\∀w∈l,w.text.length<=24:=by
 unfold aU at h
 simp only[Bool.and_eq_true,decide_eq_true_eq]at h
 refine⟨by omega,λw D=>?_⟩
 have:=all_eq_true.1 h.2 w D
 unfold wdOk bf at this
 simp only[Bool.and_eq_true,decide_eq_true_eq]at this
 omega
structure Slim (y:U):Prop where
 label:y.label.length<=7
 head:y.head.length<=256/\∀w∈y.head,w.text.length<=24
 words:y.words.length<=256/\∀w∈y.words,w.text.length<=24
 kids:y.kids.length<=64
theorem dN {y:U} (h:nodeOk y=true):Slim y:=by
 have J:=cT h
 by_cases E:y.kind=0
 ·unfold nodeOk own1 at h
  rw[if_pos E]at h
  simp only[Bool.and_eq_true,decide_eq_true_eq]at h
  obtain⟨⟨D,F,I⟩,_⟩:=h
  have M:y.head=[]:=eq_nil_of_length_eq_zero (by omega)
  have N:y.words=[]:=eq_nil_of_length_eq_zero (by omega)
  exact⟨by rw[D];simp,by rw[M];simp,by rw[N];simp,J⟩
 ·obtain⟨D,F,I⟩:=fp h E
  exact⟨nO D,lD F,lD I,J⟩
theorem slim_fit:∀u:U,(∀y∈u.flat,Slim y)->u.fit:=by
 refine U.ind λu ih h=>?_
 have D:=h u u.flat_self
 refine(U.fit_eq u).2 ⟨by have:=D.label;omega,⟨by have:=D.head.1;omega,λx E=>by have:=D.head.2 x E;omega⟩,⟨by have:=D.words.1;omega,λx E=>by have:=D.words.2 x E;omega⟩,by have:=D.kids;omega,λk F=>?_⟩
 exact ih k F λy I=>h y (U.flat_kid F I)
theorem gc {u:U} (h:∀y∈u.flat,nodeOk y=true) (E:u.flat.length<1000000):u.Short:=by
 refine⟨⟨slim_fit u λy I=>dN (h y I),E⟩,λx F=>?_⟩
 have s:=dN (h x F)
 exact⟨by have:=s.label;omega,by have:=s.head.1;omega,by have:=s.words.1;omega,λw D=>by have:=s.head.2 w D;omega,λw D=>by have:=s.words.2 w D;omega⟩
theorem Good.short {u:U} (h:Good u):u.Short:=gc h.node (by have:=h.cnt;omega)
end Go.Av
namespace Go.Av
open Go Go.RowKit List
set_option linter.unusedSimpArgs false
set_option linter.unusedVariables false
section
variable {G:Glob} {P:Program} {σ ρ:Store} {w:World} {env:Env} {K:AV->Store->Prop}
theorem bY {t Y e e':TypeId} {sz bytes:Nat} {x y:Operand} {rows ys:List (List AV)} {g:Option Nat} {xv:AV}
  (hu:P.underlying t=some (.slice e)) (hk:P.underlying Y=some (.slice e')) (hi:(P.info? e).map (λi=>(i.size,i.bytes))=some (sz,bytes)) (hz:(cK P e).map List.length=some sz) (E:sz≠0) (F:bytes≠0)
  (N:(SOpd.of x).eval G env=xv) (Z:WS σ e sz xv rows g) (O:srcX sz ((SOpd.of y).eval G env) λl=>l=ys) (D:(rows.length+ys.length)*bytes<=140737488355328)
  (J:rows=[]->ys=[]->K xv σ)
  (M:∀b cap pad,b∉(σ.erase g).keys->(rows++ys).length<=cap->cap<=maxLen->(∀r∈rows++ys,r.length=sz)->((rows++ys).flatten++pad).length=cap*sz->
   K (.sc (.slice (some ⟨b,0,none⟩) (rows++ys).length cap)) ((b,.cells e ((rows++ys).flatten++pad))::σ.erase g)):RAW G P (.call (.mk (.builtin .append) #[x,y] #[t,Y])) env σ K ⟨⟩:=by
 obtain⟨i,I,X⟩:=Option.map_eq_some_iff.1 hi
 obtain⟨z,T,V⟩:=Option.map_eq_some_iff.1 hz
 simp only[Prod.mk.injEq]at X
 obtain⟨rfl,rfl⟩:=X
 exact nH (ty:=0) hu hk I T V E F N Z O D J M
end
end Go.Av
namespace Go.Av
open Go Go.RowKit Go.Proofs List
set_option linter.unusedSimpArgs false
set_option linter.unusedVariables false
theorem iQ (l:List Wd):∀r∈l.map Wd.cs,r.length=4:=by
 intro r D
 obtain⟨w,_,rfl⟩:=mem_map.1 D
 rfl
theorem dZ (l:List U):∀r∈l.map U.cs,r.length=8:=by
 intro r D
 obtain⟨w,_,rfl⟩:=mem_map.1 D
 exact U.cs_len w
theorem ed {e:TypeId} {sz:Nat} {v:Value} (h:la v):bD e sz [] (.sc v) []:=by
 rcases h with rfl|⟨a,rfl⟩
 ·exact⟨none,0,rfl,.inl ⟨rfl,rfl,rfl⟩⟩
 ·exact⟨some a,0,rfl,.inl ⟨rfl,rfl,rfl⟩⟩
theorem RET.le {x y:AV} {R:AV->Store->Prop} {σ σ':Store} (D:AVle x y) (E:SubN σ' σ) (h:R y σ'):RET x σ R:=⟨y,σ',D,E,h⟩
theorem RET.mk' {x:AV} {R:AV->Store->Prop} {σ σ':Store} (D:SubN σ' σ) (h:R x σ'):RET x σ R:=⟨x,σ',AVle.rfl' _,D,h⟩
section
variable (G:Glob)
theorem f86 (l:List Wd) (Z:l.length<1000000):ag G Tryz.prog 86 [.lst 4 (l.map Wd.cs)] [] (λr σ=>bD 33 4 (l.map Wd.cs) r σ):=by
 obtain⟨rows,D⟩:∃rows,l.map Wd.cs=rows:=⟨_,rfl⟩
 have O:rows.length=l.length:=by rw[←D,length_map]
 have V:∀r∈rows,r.length=4:=by rw[←D];exact iQ l
 rw[D]
 refine ag.w c86 ?_
 unfold s86 r86
 simp only[EV1,EV2,EV3,EV4,EV5,Option.map_some,decide_true,decide_false,seval,↓reduceIte,eq_self]
 intro X F
 refine ab (λh=>?_) (λh=>?_)
 ·simp only[EV1,EV2,EV3,EV4,EV5,Option.map_some,decide_true,decide_false,seval,↓reduceIte,eq_self]
  have E:rows=[]:=by
   rcases Classical.em (rows=[])with h1|h1
   ·exact h1
   ·rw[F h1]at h;cases h
  subst E
  exact RET.le (y:=.sc (.slice none 0 0)) (Or.inl (Or.inr rfl)) (SubN.refl _) (ed (.inl rfl))
 ·simp only[EV1,EV2,EV3,EV4,EV5,Option.map_some,decide_true,decide_false,seval,↓reduceIte,eq_self]
  refine fV (e:=33) (n:=4) (by kernel_rfl) (by kernel_rfl) (λv T=>?_)
  simp only[EV1,EV2,EV3,EV4,EV5,Option.map_some,decide_true,decide_false,seval,↓reduceIte,eq_self]
  refine bY (e:=33) (e':=33) (sz:=4) (bytes:=40) (rows:=[]) (ys:=rows) (g:=none) (xv:=.sc v) (by kernel_rfl) (by kernel_rfl) (by kernel_rfl) (by kernel_rfl) (by decide) (by decide) rfl (.inl ⟨rfl,rfl,.inr ⟨v,rfl,T⟩⟩) ?_ ?_ ?_ ?_
  ·exact⟨rfl,rfl⟩
  ·simp;omega
  ·intro _ E
   simp only[EV1,EV2,EV3,EV4,EV5,Option.map_some,decide_true,decide_false,seval,↓reduceIte,eq_self]
   subst E
   exact RET.mk' (SubN.refl _) (ed T)
  ·intro b cap pad Y J I N M
   simp only[EV1,EV2,EV3,EV4,EV5,Option.map_some,decide_true,decide_false,seval,↓reduceIte,eq_self]
   simp only[nil_append]at*
   exact RET.mk' (SubN.refl _) ⟨_,_,rfl,.inr ⟨b,pad,rfl,rfl,J,I,N,M⟩⟩
end
end Go.Av
