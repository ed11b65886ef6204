/-
  ENACT, 10: a book stays one: IDs, nodes, depth and number behind each item.
-/
import Derived.Test.YtjdccoplpljmlaaGreatDoorVXE4toXE9
import Derived.Test.YtjdccoplpljmlaaGreatDoorVXL29toXL28
namespace Go.Av
open Go Go.RowKit Go.Proofs List
set_option linter.unusedSimpArgs false
set_option linter.unusedVariables false
structure Good (u:U):Prop where
 nd:u.ids.Nodup
 node:∀y∈u.flat,nodeOk y=true
 dep:u.deep<=8
 cnt:u.flat.length<=1024
 root:u.kind=0↔u.id=zId
 zero:u.kind≠0->zId∉u.ids
theorem nests_pos {p k:Int} (h:bt p k=true):k≠0:=by
 rintro rfl
 unfold bt at h
 revert h
 split<;>(try split)<;>(try split)<;>(try split)<;>(try split)<;>simp
theorem iE {u:U} (h:nodeOk u=true):∀k∈u.kids,bt u.kind k.kind=true:=by
 unfold nodeOk at h
 simp only[Bool.and_eq_true]at h
 exact all_eq_true.1 h.2.1.1
theorem fm {u:U} (h:nodeOk u=true):u.kids.length<=64:=by
 unfold nodeOk at h
 simp only[Bool.and_eq_true,decide_eq_true_eq]at h
 have:=h.2.2
 omega
theorem Good.kind {u:U} (h:Good u) {i:Idd} (hi:i∈u.ids) (F:u.id≠i):(fnd i u).kind≠0:=by
 obtain⟨own,d,j,O,w2,I⟩:=cg h.nd hi F
 obtain⟨a,k,b,s,N,M,J⟩:=I.split
 have E:own∈u.flat:=by
  have:=bI u h.nd I.mem
  rw[I.fnd]at this;exact this
 rw[aQ J]
 exact nests_pos (iE (h.node own E) k (by rw[s.eq];simp))
theorem ids_root {u:U} {A x B:List Idd} (e:u.ids=A++(x++B)) (E:A≠[]):∃A',A=u.id::A':=by
 rw[U.ids_eq]at e
 cases A with
 |nil=>exact absurd rfl E
 |cons a A'=>injection e with e1 e2;exact⟨A',by rw[e1]⟩
structure Root (u v:U):Prop where
 id:v.id=u.id
 kind:v.kind=u.kind
 label:v.label=u.label
 head:v.head=u.head
 words:v.words=u.words
theorem Root.refl (u:U):Root u u:=⟨rfl,rfl,rfl,rfl,rfl⟩
theorem Root.trans {u v w:U} (h:Root u v) (g:Root v w):Root u w:=⟨g.id.trans h.id,g.kind.trans h.kind,g.label.trans h.label,g.head.trans h.head,g.words.trans h.words⟩
theorem fZ {u:U} {q:Idd} {g:List U->List U}:Root u (U.wth q (λy=>{y with kids:=g y.kids}) u):=
 ⟨fY (f:=λy=>{y with kids:=g y.kids}) U.id (λ_=>rfl) (λ_ _=>rfl) u,fY (f:=λy=>{y with kids:=g y.kids}) U.kind (λ_=>rfl) (λ_ _=>rfl) u,fY (f:=λy=>{y with kids:=g y.kids}) U.label (λ_=>rfl) (λ_ _=>rfl) u,fY (f:=λy=>{y with kids:=g y.kids}) U.head (λ_=>rfl) (λ_ _=>rfl) u,fY (f:=λy=>{y with kids:=g y.kids}) U.words (λ_=>rfl) (λ_ _=>rfl) u⟩
theorem oY {u:U} {i:Idd} {f:U->U} (h:u.id≠i):Root u (U.wth i f u):=by
 rw[U.wth_eq,if_neg h]
 exact⟨rfl,rfl,rfl,rfl,rfl⟩
theorem nW (A x B:List Idd):(A++(x++B)).Perm ((A++B)++x):=by
 rw[append_assoc]
 exact List.Perm.append_left A perm_append_comm
theorem ids_ins {u:U} (I:u.ids.Nodup) {q:Idd} (J:q∈u.ids) (k:Nat) (x:U):∃A B,A≠[]/\u.ids=A++B/\(U.wth q (λy=>{y with kids:=bL y.kids k x}) u).ids=A++(x.ids++B):=by
 obtain⟨l,r,E,F⟩:=mB (f:=λy=>{y with kids:=bL y.kids k x}) u I J
 refine⟨l++((fnd q u).id::U.idss ((fnd q u).kids.take k)),U.idss ((fnd q u).kids.drop k)++r,by simp,?_,?_⟩
 ·rw[E,U.ids_eq]
  conv=>lhs;rw[←take_append_drop k (fnd q u).kids]
  rw[U.idss_app];simp[append_assoc]
 ·rw[F,U.ids_eq]
  unfold bL
  simp only
  rw[U.idss_app,U.idss_cons];simp[append_assoc]
theorem flat_ins {y x:U} {k:Nat}:∀z∈({y with kids:=bL y.kids k x}:U).flat,z={y with kids:=bL y.kids k x}\/z∈U.flats y.kids\/z∈x.flat:=by
 intro z E
 rw[U.flat_eq]at E
 simp only[bL]at E
 rw[cG,aG,mem_cons,mem_append,mem_append]at E
 have e:U.flats y.kids=U.flats (y.kids.take k)++U.flats (y.kids.drop k):=by rw[←cG,take_append_drop]
 rw[e,mem_append]
 rcases E with E|E|E|E
 ·exact .inl E
 ·exact .inr (.inl (.inl E))
 ·exact .inr (.inr E)
 ·exact .inr (.inl (.inr E))
theorem deep_ins {y x:U} {k:Nat}:({y with kids:=bL y.kids k x}:U).deep<=max y.deep (1+x.deep):=by
 rw[U.deep_eq,U.deep_eq y]
 unfold bL
 simp only
 rw[d6,U.deeps]
 have e:U.deeps y.kids=max (U.deeps (y.kids.take k)) (U.deeps (y.kids.drop k)):=by rw[←d6,take_append_drop]
 omega
theorem mR {u:U} (h:Good u) {q:Idd} (T:q∈u.ids) {x:U} (hx:∀z∈x.flat,nodeOk z=true) (ag:(u.ids++x.ids).Nodup) (F:zId∉x.ids) (k:Nat)
  (ht:¬d9 (fnd q u) (fnd q u).kids x≠0) (hl:(fnd q u).kids.length<64) (hd:(U.way q u).length+x.deep<=8) (hc:u.flat.length+x.flat.length<=1024):Good (U.wth q (λy=>{y with kids:=bL y.kids k x}) u):=by
 obtain⟨A,B,hA,e1,e2⟩:=ids_ins h.nd T k x
 have hp:(U.wth q (λy=>{y with kids:=bL y.kids k x}) u).ids.Perm (u.ids++x.ids):=by rw[e1,e2];exact nW A x.ids B
 have hr:Root u (U.wth q (λy=>{y with kids:=bL y.kids k x}) u):=fZ (g:=λl=>bL l k x)
 have hf:=bI u h.nd T
 have E:=h.node _ hf
 refine⟨hp.nodup_iff.2 ag,?_,?_,?_,?_,?_⟩
 ·refine gg (f:=λy=>{y with kids:=bL y.kids k x}) (λ_=>rfl) u h.nd T h.node ?_
  intro z F
  rcases flat_ins z F with rfl|F|F
  ·have X:bt (fnd q u).kind x.kind=true/\gG (fnd q u).kids x.kind x.label=false:=by
    unfold d9 at ht
    cases h1:bt (fnd q u).kind x.kind<;>cases N:gG (fnd q u).kids x.kind x.label<;>simp[h1,N]at ht ⊢
   unfold nodeOk at E ⊢
   simp only[Bool.and_eq_true,decide_eq_true_eq]at E ⊢
   have J:=take_append_drop k (fnd q u).kids
   refine⟨E.1,⟨?_,?_⟩,?_⟩
   ·have:=E.2.1.1
    rw[←J,all_append]at this
    unfold bL
    rw[all_append,all_cons,X.1,Bool.true_and]
    exact this
   ·have:=E.2.1.2
    unfold Apart at this ⊢
    unfold bL
    have N:=X.2
    unfold gG at N
    rw[any_eq_false]at N
    have ac:(x.kind,x.label)∉(fnd q u).kids.map λk=>(k.kind,k.label):=by
     intro M
     obtain⟨y,O,e⟩:=mem_map.1 M
     have:=N y O
     injection e with e3 e4
     simp[e3,e4]at this
    have ad:(((fnd q u).kids.take k++x::(fnd q u).kids.drop k).map λk=>(k.kind,k.label)).Perm ((x.kind,x.label)::(fnd q u).kids.map λk=>(k.kind,k.label)):=by
     have:((fnd q u).kids.take k++x::(fnd q u).kids.drop k).Perm (x::(fnd q u).kids):=by
      have:=perm_middle (a:=x) (l₁:=(fnd q u).kids.take k) (l₂:=(fnd q u).kids.drop k)
      rw[J]at this
      exact this
     exact this.map _
    exact ad.nodup_iff.2 (nodup_cons.2 ⟨ac,this⟩)
   ·unfold bL
    have:((fnd q u).kids.take k++x::(fnd q u).kids.drop k).length=(fnd q u).kids.length+1:=by
     conv=>rhs;rw[←J]
     simp;omega
    rw[this];omega
  ·exact h.node z (by
    have:z∈(fnd q u).flat:=by rw[U.flat_eq];exact mem_cons_of_mem _ F
    obtain⟨y,O,F⟩:=bT F
    have Y:=iL hf O
    have V:∀{v:U},v∈u.flat->∀w∈v.flat,w∈u.flat:=by
     intro v Z w I
     revert I
     revert Z
     revert w
     refine U.ind (p:=λv=>∀w,v∈u.flat->w∈v.flat->w∈u.flat) (λv ih w Z I=>?_) v
     rw[U.flat_eq]at I
     rcases mem_cons.1 I with rfl|I
     ·exact Z
     ·obtain⟨y,O,I⟩:=bT I
      exact ih y O w (iL Z O) I
    exact V Y z F)
  ·exact hx z F
 ·have:=(km (f:=λy=>{y with kids:=bL y.kids k x}) u h.nd T)
  have N:=deep_ins (y:=fnd q u) (x:=x) (k:=k)
  have h3:=h.dep
  have h4:=gx T
  omega
 ·have:=hp.length_eq
  rw[length_append,U.ids_len,U.ids_len,U.ids_len]at this
  omega
 ·rw[hr.kind,hr.id];exact h.root
 ·intro Y M
  rw[hr.kind]at Y
  have:=hp.mem_iff.1 M
  rcases mem_append.1 this with M|M
  ·exact h.zero Y M
  ·exact F M
theorem et {u v:U} (F:v∈u.flat):∀w∈v.flat,w∈u.flat:=by
 intro w E
 revert E
 revert F
 revert w
 refine U.ind (p:=λv=>∀w,v∈u.flat->w∈v.flat->w∈u.flat) (λv ih w F E=>?_) v
 rw[U.flat_eq]at E
 rcases mem_cons.1 E with rfl|E
 ·exact F
 ·obtain⟨y,I,E⟩:=bT E
  exact ih y I w (iL F I) E
theorem fC {u:U} (h:Good u) {i:Idd} (hi:i∈u.ids) (Y:u.id≠i):Good (aL i u)/\Root u (aL i u)/\(aL i u).deep<=u.deep/\(∃A B,A≠[]/\u.ids=A++((fnd i u).ids++B)/\(aL i u).ids=A++B):=by
 obtain⟨own,d,j,w1,w2,M⟩:=cg h.nd hi Y
 obtain⟨a,x,b,s,hx,hj,hl⟩:=M.split
 have X:fnd i u=x:=aQ hl
 subst hj
 have hW:aL i u=U.wth own.id (λy=>{y with kids:=cx y.kids a.length}) u:=by unfold aL;rw[w1]
 rw[hW,X]
 obtain⟨l,r,e1,V⟩:=mB (f:=λy=>{y with kids:=cx y.kids a.length}) u h.nd M.mem
 rw[M.fnd]at e1 V
 rw[s.eq,cz]at V
 have O:∃A B,A≠[]/\u.ids=A++(x.ids++B)/\(U.wth own.id (λy=>{y with kids:=cx y.kids a.length}) u).ids=A++B:=by
  refine⟨l++(own.id::U.idss a),U.idss b++r,by simp,?_,?_⟩
  ·rw[e1,U.ids_eq,s.eq,U.idss_app,U.idss_cons];simp[append_assoc]
  ·rw[V,U.ids_eq]
   simp only
   rw[U.idss_app];simp[append_assoc]
 have T:Root u (U.wth own.id (λy=>{y with kids:=cx y.kids a.length}) u):=fZ (g:=λl=>cx l a.length)
 have I:own∈u.flat:=by
  have:=bI u h.nd M.mem
  rw[M.fnd]at this;exact this
 obtain⟨A,B,hA,f1,f2⟩:=O
 have J:(U.wth own.id (λy=>{y with kids:=cx y.kids a.length}) u).ids.Sublist u.ids:=by
  rw[f1,f2]
  exact(List.Sublist.refl A).append (sublist_append_right _ _)
 have N:(U.wth own.id (λy=>{y with kids:=cx y.kids a.length}) u).deep<=u.deep:=by
  have h1:=(km (f:=λy=>{y with kids:=cx y.kids a.length}) u h.nd M.mem)
  rw[M.fnd]at h1
  have h2:({own with kids:=cx own.kids a.length}:U).deep<=own.deep:=by
   rw[U.deep_eq,U.deep_eq own,s.eq]
   simp only
   rw[cz,d6,d6,U.deeps]
   omega
  omega
 refine⟨⟨h.nd.sublist J,?_,Nat.le_trans N h.dep,?_,?_,?_⟩,T,N,A,B,hA,f1,f2⟩
 ·refine gg (f:=λy=>{y with kids:=cx y.kids a.length}) (λ_=>rfl) u h.nd M.mem h.node ?_
  rw[M.fnd]
  intro z F
  rw[U.flat_eq]at F
  simp only at F
  rw[s.eq,cz,cG,mem_cons,mem_append]at F
  rcases F with rfl|F|F
  ·have E:=h.node own I
   unfold nodeOk at E ⊢
   simp only[Bool.and_eq_true,decide_eq_true_eq]at E ⊢
   rw[s.eq]at E
   refine⟨E.1,⟨?_,?_⟩,?_⟩
   ·have:=E.2.1.1
    rw[all_append,all_cons,Bool.and_eq_true,Bool.and_eq_true]at this
    rw[all_append,this.1,this.2.2];rfl
   ·have:=E.2.1.2
    unfold Apart at this ⊢
    refine this.sublist (List.Sublist.map _ ?_)
    exact(List.Sublist.refl a).append (sublist_cons_self _ _)
   ·have:=E.2.2
    simp at this ⊢
    omega
  ·obtain⟨y,Z,F⟩:=bT F
   exact h.node z (et I z (U.flat_kid (by rw[s.eq];simp[Z]) F))
  ·obtain⟨y,Z,F⟩:=bT F
   exact h.node z (et I z (U.flat_kid (by rw[s.eq];simp[Z]) F))
 ·have:=J.length_le
  rw[U.ids_len,U.ids_len]at this
  exact Nat.le_trans this h.cnt
 ·rw[T.kind,T.id];exact h.root
 ·intro hk hm
  rw[T.kind]at hk
  exact h.zero hk (J.subset hm)
/-! ### stamps -/
theorem U.stamp_eq (a b:Int) (u:U) (n m:Int):U.stamp a b u n m=(⟨⟨a,b,n⟩,u.kind,u.label,aW a b (u.head.map Wd.text) m,aW a b (u.words.map Wd.text) (m+u.head.length),(U.stamps a b u.kids (n+1) (m+u.head.length+u.words.length)).1⟩,(U.stamps a b u.kids (n+1) (m+u.head.length+u.words.length)).2):=by
 cases u;rw[U.stamp]
theorem U.stamps_nil (a b:Int) (n m:Int):U.stamps a b [] n m=([],n,m):=by rw[U.stamps]
theorem U.stamps_cons (a b:Int) (u:U) (us:List U) (n m:Int):U.stamps a b (u::us) n m=((U.stamp a b u n m).1::(U.stamps a b us (U.stamp a b u n m).2.1 (U.stamp a b u n m).2.2).1,(U.stamps a b us (U.stamp a b u n m).2.1 (U.stamp a b u n m).2.2).2):=by rw[U.stamps]
def idRow (a b n:Int) (k:Nat):List Idd:=(List.range k).map λj:Nat=>(⟨a,b,n+(j:Int)⟩:Idd)
theorem ls (a b n:Int) (k l:Nat):idRow a b n (k+l)=idRow a b n k++idRow a b (n+k) l:=by
 unfold idRow
 rw[range_add,map_append,map_map]
 congr 1
 refine map_congr_left λj _=>?_
 simp only[Function.comp]
 congr 1
 omega
theorem idRow_nd (a b n:Int) (k:Nat):(idRow a b n k).Nodup:=by
 unfold idRow
 refine pairwise_map.2 (List.Pairwise.imp (λh e=>h ?_) (nodup_range (n:=k)))
 injection e with _ _ e
 omega
structure StampOk (a b:Int) (u:U) (n m:Int) (q:U×Int×Int):Prop where
 ids:q.1.ids=idRow a b n u.flat.length
 next:q.2.1=n+u.flat.length
 deep:q.1.deep=u.deep
 len:q.1.flat.length=u.flat.length
 key:q.1.key=u.key
 node:∀z∈q.1.flat,∃y∈u.flat,nodeOk z=nodeOk y
structure StampsOk (a b:Int) (us:List U) (n m:Int) (q:List U×Int×Int):Prop where
 ids:U.idss q.1=idRow a b n (U.flats us).length
 next:q.2.1=n+(U.flats us).length
 deep:U.deeps q.1=U.deeps us
 len:(U.flats q.1).length=(U.flats us).length
 key:q.1.map U.key=us.map U.key
 node:∀z∈U.flats q.1,∃y∈U.flats us,nodeOk z=nodeOk y
theorem kj (a b:Int) (l:List Wd) (m:Int):aX (aW a b (l.map Wd.text) m)=aX l/\(aW a b (l.map Wd.text) m).length=l.length:=by
 have E:(aW a b (l.map Wd.text) m).length=l.length:=by rw[cF,length_map]
 have F:∀(l:List Wd) (m:Int),(aW a b (l.map Wd.text) m).all wdOk=l.all wdOk:=by
  intro l
  induction l with
  |nil=>intro m;rfl
  |cons w l ih=>intro m;rw[map_cons,aW,all_cons,all_cons,ih];rfl
 unfold aX
 rw[E,F]
 exact⟨rfl,rfl⟩
theorem ga (a b:Int):∀{us:List U},(∀k∈us,∀n m,StampOk a b k n m (U.stamp a b k n m))->∀n m,StampsOk a b us n m (U.stamps a b us n m)
 |[],_,n,m=>by
  rw[U.stamps_nil]
  refine⟨?_,?_,rfl,rfl,rfl,?_⟩
  ·rw[U.idss_nil,bl];rfl
  ·rw[bl];simp
  ·intro z E;rw[bl]at E;cases E
 |u::us,h,n,m=>by
  obtain⟨O,I,J,X,k1,Z⟩:=h u (by simp) n m
  have ih:=ga a b (us:=us) (λk N=>h k (by simp[N])) (U.stamp a b u n m).2.1 (U.stamp a b u n m).2.2
  obtain⟨T,x2,M,Y,V,n2⟩:=ih
  rw[U.stamps_cons]
  refine⟨?_,?_,?_,?_,?_,?_⟩
  ·simp only
   rw[U.idss_cons,O,T,I,aG,length_append,ls]
  ·simp only
   rw[x2,I,aG,length_append];omega
  ·simp only
   rw[U.deeps,U.deeps,J,M]
  ·simp only
   rw[aG,aG,length_append,length_append,X,Y]
  ·simp only
   rw[map_cons,map_cons,k1,V]
  ·intro z E
   simp only at E
   rw[aG,mem_append]at E
   rcases E with E|E
   ·obtain⟨y,F,e⟩:=Z z E
    exact⟨y,by rw[aG];exact mem_append.2 (.inl F),e⟩
   ·obtain⟨y,F,e⟩:=n2 z E
    exact⟨y,by rw[aG];exact mem_append.2 (.inr F),e⟩
theorem jV (a b:Int):∀u:U,∀n m,StampOk a b u n m (U.stamp a b u n m):=by
 refine U.ind λu ih n m=>?_
 obtain⟨J,T,F,N,M,O⟩:=ga a b ih (n+1) (m+u.head.length+u.words.length)
 rw[U.stamp_eq]
 refine⟨?_,?_,?_,?_,rfl,?_⟩
 ·rw[U.ids_eq]
  simp only
  rw[J,U.flat_eq u,length_cons,Nat.add_comm,ls]
  unfold idRow
  simp
 ·simp only
  rw[T,U.flat_eq u,length_cons];omega
 ·rw[U.deep_eq,U.deep_eq u];exact F
 ·rw[U.flat_eq,U.flat_eq u,length_cons,length_cons];simp only;rw[N]
 ·intro z E
  rw[U.flat_eq]at E
  rcases mem_cons.1 E with rfl|E
  ·refine⟨u,u.flat_self,fP rfl rfl ?_ ?_ M⟩
   ·exact kj a b u.head m
   ·exact kj a b u.words _
  ·obtain⟨y,I,e⟩:=O z E
   exact⟨y,by rw[U.flat_eq];exact mem_cons_of_mem _ I,e⟩
theorem lD (u:U) (a b:Int) (h:∀y∈u.flat,nodeOk y=true):(cI u a b).ids=idRow a b 1 u.flat.length/\(cI u a b).deep=u.deep/\(cI u a b).flat.length=u.flat.length/\(cI u a b).key=u.key/\∀z∈(cI u a b).flat,nodeOk z=true:=by
 obtain⟨J,O,E,M,k1,N⟩:=jV a b u 1 0
 refine⟨J,E,M,k1,λz I=>?_⟩
 obtain⟨y,F,e⟩:=N z I
 rw[e];exact h y F
theorem ow (a b:Int) (k:Nat):zId∉idRow a b 1 k:=by
 intro h
 obtain⟨j,_,e⟩:=mem_map.1 h
 injection e with _ _ e
 omega
/-! ### words -/
theorem ij {a b:Int}:∀{l:List (List UInt8)} {m:Int},l.all bX=true->(aW a b l m).all wdOk=true
 |[],_,_=>rfl
 |s::l,m,h=>by
  rw[all_cons,Bool.and_eq_true]at h
  rw[aW,all_cons,Bool.and_eq_true]
  exact⟨h.1,ij h.2⟩
theorem all_take {α:Type} {p:α->Bool} {l:List α} (h:l.all p=true) (k:Nat):(l.take k).all p=true:=all_eq_true.2 λx E=>all_eq_true.1 h x (mem_of_mem_take E)
theorem nC {α:Type} {p:α->Bool} {l:List α} (h:l.all p=true) (k:Nat):(l.drop k).all p=true:=all_eq_true.2 λx E=>all_eq_true.1 h x (mem_of_mem_drop E)
theorem jO {w:List Wd} {E:List (List UInt8)} {a b:Int} {F:Nat} (I:w.all wdOk=true) (J:E.all bX=true):∀(ps:List Nat) (s:Nat) (m:Int),(fz w E a b F s ps m).all wdOk=true
 |[],s,m=>by rw[fz];exact nC I s
 |p::ps,s,m=>by
  rw[fz,all_append,all_append,nC (all_take I p) s,ij J,jO I J ps];rfl
theorem dr {l:List (List UInt8)} (h:dH l=true):l.all bX=true/\l.length<=256:=by
 unfold dH at h
 simp only[Bool.and_eq_true,decide_eq_true_eq]at h
 exact⟨h.2,by omega⟩
theorem rowOk_all {l:List Wd} (h:aX l=true):l.all wdOk=true:=by
 unfold aX at h
 simp only[Bool.and_eq_true]at h
 exact h.2
theorem ip {l:List Wd} (h:l.all wdOk=true) (E:¬256<l.length):aX l=true:=by
 unfold aX
 rw[h,decide_eq_true (by omega)];rfl
theorem editE_ok {w:List Wd} {x:Itm} {a b:Int} (V:aX w=true) (T:dH x.new=true) (E:(bJ w x a b).2=0):aX (bJ w x a b).1=true:=by
 have J:=rowOk_all V
 have M:=(dr T).1
 unfold bJ at E ⊢
 split
 ·split
  ·rename_i N F;rw[if_pos N,if_pos F]at E;cases E
  ·rename_i F
   exact ip (by rw[all_append,ij M,J];rfl) F
 ·rename_i N
  rw[if_neg N]at E
  split
  ·rename_i F;rw[if_pos F]at E;cases E
  ·rename_i F
   rw[if_neg F]at E
   split
   ·rename_i O
    rw[if_pos O]at E
    split
    ·rename_i I;rw[if_pos I]at E;cases E
    ·rename_i I;exact ip (jO J M _ _ _) I
   ·rename_i O
    rw[if_neg O]at E
    split
    ·rename_i I;rw[if_pos I]at E;cases E
    ·rename_i I;exact ip (jO J M _ _ _) I
theorem ib {u:U} (h:Good u) {i:Idd} (hi:i∈u.ids) (J:u.id≠i) {f:U->U} (hid:∀y,(f y).id=y.id) (E:∀y,(f y).kids=y.kids) (O:∀z∈(U.wth i f u).flat,nodeOk z=true):Good (U.wth i f u)/\Root u (U.wth i f u):=by
 have F:Root u (U.wth i f u):=oY J
 obtain⟨l,r,M,N⟩:=mB (f:=f) u h.nd hi
 have I:(U.wth i f u).ids=u.ids:=by rw[M,N,U.ids_eq,hid,E,U.ids_eq (fnd i u)]
 refine⟨⟨by rw[I];exact h.nd,O,?_,?_,?_,?_⟩,F⟩
 ·have T:=km (f:=f) u h.nd hi
  have V:(f (fnd i u)).deep=(fnd i u).deep:=by rw[U.deep_eq,U.deep_eq (fnd i u),E]
  have X:=h.dep
  omega
 ·have:=congrArg List.length I
  rw[U.ids_len,U.ids_len]at this
  rw[this];exact h.cnt
 ·rw[F.kind,F.id];exact h.root
 ·rw[F.kind,I];exact h.zero
theorem ka {y:U} (h:nodeOk y=true) (E:y.kind≠0):bc y.label=true/\aX y.head=true/\aX y.words=true:=by
 unfold nodeOk own1 at h
 rw[if_neg E]at h
 simp only[Bool.and_eq_true]at h
 exact⟨h.1.2.1,h.1.2.2.1,h.1.2.2.2⟩
theorem o5 {y:U} (h:nodeOk y=true) (E:y.kind≠0) {w:List Wd} (F:aX w=true):nodeOk {y with words:=w}=true:=by
 unfold nodeOk own1 at h ⊢
 simp only at h ⊢
 rw[if_neg E]at h ⊢
 rw[F,Bool.and_true]
 simp only[Bool.and_eq_true]at h ⊢
 exact⟨⟨h.1.1,h.1.2.1,h.1.2.2.1⟩,h.2⟩
theorem node_head {y:U} (h:nodeOk y=true) (E:y.kind≠0) {w:List Wd} (F:aX w=true):nodeOk {y with head:=w}=true:=by
 unfold nodeOk own1 at h ⊢
 simp only at h ⊢
 rw[if_neg E]at h ⊢
 rw[F,Bool.true_and]
 simp only[Bool.and_eq_true]at h ⊢
 exact⟨⟨h.1.1,h.1.2.1,h.1.2.2.2⟩,h.2⟩
theorem j5 {y z:U} (h:z.kids=y.kids):∀v∈z.flat,v=z\/v∈y.flat:=by
 intro v E
 rw[U.flat_eq,h]at E
 rcases mem_cons.1 E with rfl|E
 ·exact .inl rfl
 ·exact .inr (by rw[U.flat_eq];exact mem_cons_of_mem _ E)
theorem gw {x:Itm} (h:x.may=true):x.own (Itm.mayOne x.by_)=true:=by
 rw[Itm.may_eq,Bool.and_eq_true]at h
 exact h.2
theorem gb {x:Itm} (h:x.may=true) (E:x.kind=0\/x.kind=6):0<=x.wh/\x.wh<=3:=by
 have:=gw h
 unfold Itm.own inR at this
 rcases E with E|E<;>simp[E]at this<;>omega
theorem mj {x:Itm} (h:x.may=true) (E:x.kind=2\/x.kind=3\/x.kind=4):dH x.new=true:=by
 have:=gw h
 unfold Itm.own cV at this
 rcases E with E|E|E<;>simp[E]at this<;>simp[this]
theorem oG {x:Itm} (h:x.may=true) (E:x.kind=5):bc x.label=true:=by
 have:=gw h
 unfold Itm.own at this
 simpa[E]using this
theorem nK {x:Itm} (h:x.may=true) (F:x.kind=0):∀y∈x.unit.flat,nodeOk y=true:=by
 have:=gw h
 unfold Itm.own at this
 simp only[F,if_true,Bool.and_eq_true]at this
 have E:=this.2.1
 rw[gK]at E
 unfold gA cv at E
 simp only[Bool.and_eq_true]at E
 exact all_eq_true.1 E.1.1
theorem kk {u:U} (F:u.ids.Nodup) {i q:Idd} (hi:i∈u.ids) {wh:Int} {k:Nat} (h:spot u i wh=some (q,k)):q∈u.ids:=by
 unfold spot at h
 split at h
 ·injection h with h;injection h with h1 h2;subst h1;exact hi
 ·split at h
  ·injection h with h;injection h with h1 h2;subst h1;exact hi
  ·obtain⟨⟨p,d,j⟩,e,E⟩:=Option.map_eq_some_iff.1 h
   injection E with e3 e4
   subst e3
   exact(er u F hi e).mem
theorem ins_good {u:U} (h:Good u) {i:Idd} (hi:i∈u.ids) {d:Dd} (V:d.it.may=true) (T:d.it.kind=0):Good (insP u i d).1/\Root u (insP u i d).1:=by
 unfold insP
 split
 ·exact⟨h,Root.refl u⟩
 ·rename_i q k e
  have X:=kk h.nd hi e
  obtain⟨s1,s2,s3,s4,s5⟩:=lD d.it.unit d.act d.item (nK V T)
  obtain⟨x,Z⟩:∃x,cI d.it.unit d.act d.item=x:=⟨_,rfl⟩
  rw[Z]at s1 s2 s3 s4 s5 ⊢
  split
  ·exact⟨h,Root.refl u⟩
  ·rename_i Y
   split
   ·exact⟨h,Root.refl u⟩
   ·rename_i J
    split
    ·exact⟨h,Root.refl u⟩
    ·rename_i F
     simp only[not_or,Int.not_le,Int.not_lt,Nat.not_le]at J
     obtain⟨f1,f2,f3⟩:=J
     have E:∀y∈x.ids,y∉u.ids:=by
      intro y hy I
      exact F (any_eq_true.2 ⟨y,hy,decide_eq_true I⟩)
     refine⟨mR h X s5 ?_ ?_ k Y f1 ?_ ?_,fZ (g:=λl=>bL l k x)⟩
     ·rw[nodup_append]
      refine⟨h.nd,by rw[s1];exact idRow_nd _ _ _ _,?_⟩
      intro a N b O M
      subst M
      exact E a O N
     ·rw[s1];exact ow _ _ _
     ·unfold U.dep at f2;omega
     ·unfold U.cnt at f3;omega
theorem mov_good {u:U} (h:Good u) {i t:Idd} (hi:i∈u.ids) (N:u.id≠i) (ht:t∈u.ids) {d:Dd} (h0:0<=d.it.wh) (h3:d.it.wh<=3):Good (movP u i t d).1/\Root u (movP u i t d).1:=by
 obtain⟨g1,g2,g3,A,B,hA,J,e2⟩:=fC h hi N
 obtain⟨own,dO,j,w1,w2,F⟩:=cg h.nd hi N
 obtain⟨a,x,b,s,hx,hj,hl⟩:=F.split
 have ag:fnd i u=x:=aQ hl
 have aw:=bI u h.nd hi
 unfold movP
 split
 ·exact⟨h,Root.refl u⟩
 ·rename_i q k e
  split
  ·exact⟨h,Root.refl u⟩
  ·rename_i an
   split
   ·exact⟨h,Root.refl u⟩
   ·rename_i hf
    rw[not_or]at hf
    obtain⟨f1,f2⟩:=hf
    have hq:q∈(aL i u).ids:=by
     have V:q∈u.ids/\q∉(fnd i u).ids:=by
      unfold eS at e
      rw[w1]at e
      simp only at e
      split at e
      ·cases e
      ·rename_i hc
       rw[not_or]at hc
       split at e
       ·injection e with e;injection e with e3 e4
        subst e3
        refine⟨F.mem,?_⟩
        rw[ag]
        have:=(U.nd_kids F.nd).2
        rw[s.eq,U.idss_app,U.idss_cons]at this
        exact λE=>this (mem_append.2 (.inr (mem_append.2 (.inl E))))
       ·rename_i al
        obtain⟨⟨q',k'⟩,Y,e6⟩:=Option.map_eq_some_iff.1 e
        injection e6 with e7 e8
        subst e7
        have hr:¬(besides d.it.wh=true/\t=u.id):=by
         rintro⟨r1,r2⟩
         have Z:d.it.wh=2\/d.it.wh=3:=by simpa[besides]using r1
         unfold spot at Y
         rw[dG r2.symm]at Y
         rcases Z with Z|Z<;>simp[Z]at Y
        obtain⟨P,dp,k2,hg⟩:=mM h.nd ht h0 h3 hr
        have:=hg.spot
        rw[Y]at this
        injection this with this
        injection this with e9 e10
        simp only at e9 ⊢
        rw[e9]
        refine⟨hg.mem,hg.out i hi λE=>?_⟩
        exact hc.1 ((iP u h.nd ht hi).2 ⟨al,E⟩)
     rw[e2]
     have:=V.1
     rw[J]at this
     rcases mem_append.1 this with E|E
     ·exact mem_append.2 (.inl E)
     ·rcases mem_append.1 E with E|E
      ·exact absurd E V.2
      ·exact mem_append.2 (.inr E)
    have I:((aL i u).ids++(fnd i u).ids).Perm u.ids:=by
     rw[e2,J];exact(nW A _ B).symm
    refine⟨mR g1 hq (λz hz=>h.node z (et aw z hz)) (I.nodup_iff.2 h.nd) ?_ k an ?_ ?_ ?_,g2.trans (fZ (g:=λl=>bL l k (fnd i u)))⟩
    ·intro hz
     by_cases M:u.kind=0
     ·have hr:=h.root.1 M
      have hn:=h.nd
      rw[J]at hn
      obtain⟨A',ac⟩:=ids_root J hA
      subst ac
      rw[cons_append,nodup_cons]at hn
      exact hn.1 (by rw[hr];exact mem_append.2 (.inr (mem_append.2 (.inl hz))))
     ·exact h.zero M (mb h.nd hi hz)
    ·by_cases T:q=own.id
     ·
      subst T
      have hW:aL i u=U.wth own.id (λy=>{y with kids:=cx y.kids j}) u:=by unfold aL;rw[w1]
      have O:own∈u.flat:=by
       have:=bI u h.nd F.mem
       rw[F.fnd]at this;exact this
      have ah:own.id∉x.ids:=by
       have:=(U.nd_kids F.nd).2
       rw[s.eq,U.idss_app,U.idss_cons]at this
       exact λE=>this (mem_append.2 (.inr (mem_append.2 (.inl E))))
      subst hj
      have X:=way_out (t:=own.id) h.nd F s.eq ah
      have ad:fnd own.id (aL i u)={own with kids:=a++b}:=by
       rw[hW]
       refine aQ ?_
       rw[X,getLast?_map,F.last,Option.map_some,cC rfl,s.eq,cz]
      rw[ad]
      have:=fm (h.node own O)
      rw[s.eq]at this
      simp at this ⊢
      omega
     ·rw[w2]at f1
      apply Classical.byContradiction
      intro hc
      exact f1 ⟨T,by omega⟩
    ·unfold U.dep at f2;omega
    ·have:=congrArg List.length J
     have e3:=congrArg List.length e2
     rw[U.ids_len,length_append,length_append,U.ids_len]at this
     rw[U.ids_len,length_append]at e3
     have:=h.cnt
     omega
theorem do_good {u:U} (h:Good u) (d:Dd):Good (doP u d).1/\Root u (doP u d).1:=by
 have N:Good u/\Root u u:=⟨h,Root.refl u⟩
 unfold doP
 split
 ·exact N
 rename_i c1
 have T:d.it.may=true:=by cases hh:d.it.may<;>simp_all
 split
 ·exact N
 rename_i c2
 have hi:=cM (u:=u) (p:=d.it.at_) (by simpa using c2)
 obtain⟨i,Z⟩:∃i,(one u d.it.at_).1=i:=⟨_,rfl⟩
 rw[Z]at hi ⊢
 split
 ·rename_i k0
  exact ins_good h hi T k0
 rename_i k0
 split
 ·split<;>exact N
 rename_i ac
 have E:u.id≠i:=λe=>ac e.symm
 have X:=h.kind hi E
 have J:=bI u h.nd hi
 have I:=h.node _ J
 split
 ·have:=fC h hi E
  exact⟨this.1,this.2.1⟩
 split
 ·rename_i k2
  split
  ·exact N
  ·rename_i he
   have O:=editE_ok (a:=d.act) (b:=d.item) (ka I X).2.2 (mj T (by omega)) (by simpa using he)
   refine ib h hi E (λ_=>rfl) (λ_=>rfl) (gg (f:=λy=>{y with words:=(bJ (fnd i u).words d.it d.act d.item).1}) (λ_=>rfl) u h.nd hi h.node λz M=>?_)
   rcases j5 (y:=fnd i u) (z:={fnd i u with words:=(bJ (fnd i u).words d.it d.act d.item).1}) rfl z M with rfl|M
   ·exact o5 I X O
   ·exact h.node z (et J z M)
 split
 ·rename_i k4
  have O:aX (aW d.act d.item d.it.new 0)=true:=by
   have:=dr (mj T (.inr (.inr k4)))
   exact ip (ij this.1) (by rw[cF];omega)
  refine ib h hi E (λ_=>rfl) (λ_=>rfl) (gg (f:=λy=>{y with head:=aW d.act d.item d.it.new 0}) (λ_=>rfl) u h.nd hi h.node λz M=>?_)
  rcases j5 (y:=fnd i u) (z:={fnd i u with head:=aW d.act d.item d.it.new 0}) rfl z M with rfl|M
  ·exact node_head I X O
  ·exact h.node z (et J z M)
 split
 ·rename_i k5
  split
  ·exact N
  ·rename_i V
   refine ib h hi E (λ_=>rfl) (λ_=>rfl) (nu u h.nd hi E h.node (oG T k5) (λp dd j e=>?_) X)
   have hp:=er u h.nd hi e
   obtain⟨a,k,b,s,an,hj,hl⟩:=hp.split
   have ah:(parR i u).1=p:=by unfold parR;rw[par_way u h.nd hi,e];rfl
   rw[ah]at V
   have ag:p∈u.flat:=by
    have:=bI u h.nd hp.mem
    rw[hp.fnd]at this;exact this
   have F:=iE (h.node p ag) k (by rw[s.eq];simp)
   have Y:fnd i u=k:=aQ hl
   rw[Y]at V ⊢
   cases al:gG p.kids k.kind d.it.label with
   |false=>rfl
   |true=>exact absurd (by unfold d9;simp only;rw[F,al];simp) V
 split
 ·exact N
 rename_i c7
 have V:=cM (u:=u) (p:=d.it.to_) (by simpa using c7)
 have ad:d.it.kind=6:=by
  have:chg d.it.kind=true:=by cases hh:chg d.it.kind<;>simp_all
  simp only[chg,Bool.and_eq_true,decide_eq_true_eq]at this
  omega
 have O:=gb T (.inr ad)
 exact mov_good h hi E V O.1 O.2
theorem nD {s:List UInt8} (h:bc s=true):s.length<=7:=by
 unfold bc at h
 simp only[Bool.and_eq_true,decide_eq_true_eq]at h
 omega
theorem lL {l:List Wd} (h:aX l=true):l.length<=256/\∀w∈l,w.text.length<=24:=by
 unfold aX at h
 simp only[Bool.and_eq_true,decide_eq_true_eq]at h
 refine⟨by omega,λw E=>?_⟩
 have:=all_eq_true.1 h.2 w E
 unfold wdOk bX at this
 simp only[Bool.and_eq_true,decide_eq_true_eq]at this
 omega
structure Slim (y:U):Prop where
 label:y.label.length<=7
 head:y.head.length<=256/\∀w∈y.head,w.text.length<=24
 words:y.words.length<=256/\∀w∈y.words,w.text.length<=24
 kids:y.kids.length<=64
theorem dJ {y:U} (h:nodeOk y=true):Slim y:=by
 have M:=fm h
 by_cases F:y.kind=0
 ·unfold nodeOk own1 at h
  rw[if_pos F]at h
  simp only[Bool.and_eq_true,decide_eq_true_eq]at h
  obtain⟨⟨E,I,J⟩,_⟩:=h
  have N:y.head=[]:=eq_nil_of_length_eq_zero (by omega)
  have O:y.words=[]:=eq_nil_of_length_eq_zero (by omega)
  exact⟨by rw[E];simp,by rw[N];simp,by rw[O];simp,M⟩
 ·obtain⟨E,I,J⟩:=ka h F
  exact⟨nD E,lL I,lL J,M⟩
theorem slim_fit:∀u:U,(∀y∈u.flat,Slim y)->u.fit:=by
 refine U.ind λu ih h=>?_
 have E:=h u u.flat_self
 refine(U.fit_eq u).2 ⟨by have:=E.label;omega,⟨by have:=E.head.1;omega,λx F=>by have:=E.head.2 x F;omega⟩,⟨by have:=E.words.1;omega,λx F=>by have:=E.words.2 x F;omega⟩,by have:=E.kids;omega,λk I=>?_⟩
 exact ih k I λy J=>h y (U.flat_kid I J)
theorem fE {u:U} (h:∀y∈u.flat,nodeOk y=true) (F:u.flat.length<1000000):u.Short:=by
 refine⟨⟨slim_fit u λy J=>dJ (h y J),F⟩,λx I=>?_⟩
 have s:=dJ (h x I)
 exact⟨by have:=s.label;omega,by have:=s.head.1;omega,by have:=s.words.1;omega,λw E=>by have:=s.head.2 w E;omega,λw E=>by have:=s.words.2 w E;omega⟩
theorem Good.short {u:U} (h:Good u):u.Short:=fE h.node (by have:=h.cnt;omega)
end Go.Av
