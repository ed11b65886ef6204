/-
  ENACT, 10: a book stays one: IDs, nodes, depth and number behind each item.
-/
import Derived.Test.YtnoakpkjccigoaaGreatDoorXE7toXP1
import Derived.Test.YtnoakpkjccigoaaGreatDoorXAv26toXOpenG
namespace Go.Av
open Go Go.RowKit Go.Proofs List
set_option linter.unusedSimpArgs false
set_option linter.unusedVariables false
structure Good (u:U):Prop where
 nd:u.ids.Nodup
 node:∀y∈u.flat,nodeOk y=true
 dep:u.deep<=8
 cnt:u.flat.length<=1024
 root:u.kind=0↔u.id=zId
 zero:u.kind≠0->zId∉u.ids
theorem jd {p k:Int} (h:nests p k=true):k≠0:=by
 rintro rfl
 unfold nests at h
 revert h
 split<;>(try split)<;>(try split)<;>(try split)<;>(try split)<;>simp
theorem df {u:U} (h:nodeOk u=true):∀k∈u.kids,nests u.kind k.kind=true:=by
 unfold nodeOk at h
 simp only[Bool.and_eq_true]at h
 exact all_eq_true.1 h.2.1.1
theorem cT {u:U} (h:nodeOk u=true):u.kids.length<=64:=by
 unfold nodeOk at h
 simp only[Bool.and_eq_true,decide_eq_true_eq]at h
 have:=h.2.2
 omega
theorem Good.kind {u:U} (h:Good u) {i:Idd} (hi:i∈u.ids) (hne:u.id≠i):(fnd i u).kind≠0:=by
 obtain⟨own,d,j,w1,w2,hp⟩:=bt h.nd hi hne
 obtain⟨a,k,b,s,hk,hj,hl⟩:=hp.split
 have hown:own∈u.flat:=by
  have:=aP u h.nd hp.mem
  rw[hp.fnd]at this;exact this
 rw[aB hl]
 exact jd (df (h.node own hown) k (by rw[s.eq];simp))
theorem ids_root {u:U} {A x B:List Idd} (e:u.ids=A++(x++B)) (hA:A≠[]):∃A',A=u.id::A':=by
 rw[U.ids_eq]at e
 cases A with
 |nil=>exact absurd rfl hA
 |cons a A'=>injection e with e1 e2;exact⟨A',by rw[e1]⟩
structure Root (u v:U):Prop where
 id:v.id=u.id
 kind:v.kind=u.kind
 label:v.label=u.label
 head:v.head=u.head
 words:v.words=u.words
theorem Root.refl (u:U):Root u u:=⟨rfl,rfl,rfl,rfl,rfl⟩
theorem Root.trans {u v w:U} (h:Root u v) (g:Root v w):Root u w:=⟨g.id.trans h.id,g.kind.trans h.kind,g.label.trans h.label,g.head.trans h.head,g.words.trans h.words⟩
theorem gC {u:U} {q:Idd} {g:List U->List U}:Root u (U.wth q (λy=>{y with kids:=g y.kids}) u):=
 ⟨eM (f:=λy=>{y with kids:=g y.kids}) U.id (λ_=>rfl) (λ_ _=>rfl) u,eM (f:=λy=>{y with kids:=g y.kids}) U.kind (λ_=>rfl) (λ_ _=>rfl) u,eM (f:=λy=>{y with kids:=g y.kids}) U.label (λ_=>rfl) (λ_ _=>rfl) u,eM (f:=λy=>{y with kids:=g y.kids}) U.head (λ_=>rfl) (λ_ _=>rfl) u,eM (f:=λy=>{y with kids:=g y.kids}) U.words (λ_=>rfl) (λ_ _=>rfl) u⟩
theorem oR {u:U} {i:Idd} {f:U->U} (h:u.id≠i):Root u (U.wth i f u):=by
 rw[U.wth_eq,if_neg h]
 exact⟨rfl,rfl,rfl,rfl,rfl⟩
theorem nh (A x B:List Idd):(A++(x++B)).Perm ((A++B)++x):=by
 rw[append_assoc]
 exact List.Perm.append_left A perm_append_comm
theorem ids_ins {u:U} (hn:u.ids.Nodup) {q:Idd} (hq:q∈u.ids) (k:Nat) (x:U):∃A B,A≠[]/\u.ids=A++B/\(U.wth q (λy=>{y with kids:=insAt y.kids k x}) u).ids=A++(x.ids++B):=by
 obtain⟨l,r,e1,e2⟩:=gO (f:=λy=>{y with kids:=insAt y.kids k x}) u hn hq
 refine⟨l++((fnd q u).id::U.idss ((fnd q u).kids.take k)),U.idss ((fnd q u).kids.drop k)++r,by simp,?_,?_⟩
 ·rw[e1,U.ids_eq]
  conv=>lhs;rw[←take_append_drop k (fnd q u).kids]
  rw[U.idss_app];simp[append_assoc]
 ·rw[e2,U.ids_eq]
  unfold insAt
  simp only
  rw[U.idss_app,U.idss_cons];simp[append_assoc]
theorem flat_ins {y x:U} {k:Nat}:∀z∈({y with kids:=insAt y.kids k x}:U).flat,z={y with kids:=insAt y.kids k x}\/z∈U.flats y.kids\/z∈x.flat:=by
 intro z hz
 rw[U.flat_eq]at hz
 simp only[insAt]at hz
 rw[cJ,flats_cons,mem_cons,mem_append,mem_append]at hz
 have e:U.flats y.kids=U.flats (y.kids.take k)++U.flats (y.kids.drop k):=by rw[←cJ,take_append_drop]
 rw[e,mem_append]
 rcases hz with hz|hz|hz|hz
 ·exact .inl hz
 ·exact .inr (.inl (.inl hz))
 ·exact .inr (.inr hz)
 ·exact .inr (.inl (.inr hz))
theorem deep_ins {y x:U} {k:Nat}:({y with kids:=insAt y.kids k x}:U).deep<=max y.deep (1+x.deep):=by
 rw[U.deep_eq,U.deep_eq y]
 unfold insAt
 simp only
 rw[eh,U.deeps]
 have e:U.deeps y.kids=max (U.deeps (y.kids.take k)) (U.deeps (y.kids.drop k)):=by rw[←eh,take_append_drop]
 omega
theorem nP {u:U} (h:Good u) {q:Idd} (hq:q∈u.ids) {x:U} (hx:∀z∈x.flat,nodeOk z=true) (hxn:(u.ids++x.ids).Nodup) (hz:zId∉x.ids) (k:Nat)
  (ht:¬dR (fnd q u) (fnd q u).kids x≠0) (hl:(fnd q u).kids.length<64) (hd:(U.way q u).length+x.deep<=8) (hc:u.flat.length+x.flat.length<=1024):Good (U.wth q (λy=>{y with kids:=insAt y.kids k x}) u):=by
 obtain⟨A,B,hA,e1,e2⟩:=ids_ins h.nd hq k x
 have hp:(U.wth q (λy=>{y with kids:=insAt y.kids k x}) u).ids.Perm (u.ids++x.ids):=by rw[e1,e2];exact nh A x.ids B
 have hr:Root u (U.wth q (λy=>{y with kids:=insAt y.kids k x}) u):=gC (g:=λl=>insAt l k x)
 have hf:=aP u h.nd hq
 have hnf:=h.node _ hf
 refine⟨hp.nodup_iff.2 hxn,?_,?_,?_,?_,?_⟩
 ·refine gE (f:=λy=>{y with kids:=insAt y.kids k x}) (λ_=>rfl) u h.nd hq h.node ?_
  intro z hz
  rcases flat_ins z hz with rfl|hz|hz
  ·have ht1:nests (fnd q u).kind x.kind=true/\taken (fnd q u).kids x.kind x.label=false:=by
    unfold dR at ht
    cases h1:nests (fnd q u).kind x.kind<;>cases h2:taken (fnd q u).kids x.kind x.label<;>simp[h1,h2]at ht ⊢
   unfold nodeOk at hnf ⊢
   simp only[Bool.and_eq_true,decide_eq_true_eq]at hnf ⊢
   have etd:=take_append_drop k (fnd q u).kids
   refine⟨hnf.1,⟨?_,?_⟩,?_⟩
   ·have:=hnf.2.1.1
    rw[←etd,all_append]at this
    unfold insAt
    rw[all_append,all_cons,ht1.1,Bool.true_and]
    exact this
   ·have:=hnf.2.1.2
    unfold Apart at this ⊢
    unfold insAt
    have h2:=ht1.2
    unfold taken at h2
    rw[any_eq_false]at h2
    have hno:(x.kind,x.label)∉(fnd q u).kids.map λk=>(k.kind,k.label):=by
     intro hm
     obtain⟨y,hy,e⟩:=mem_map.1 hm
     have:=h2 y hy
     injection e with e3 e4
     simp[e3,e4]at this
    have hp2:(((fnd q u).kids.take k++x::(fnd q u).kids.drop k).map λk=>(k.kind,k.label)).Perm ((x.kind,x.label)::(fnd q u).kids.map λk=>(k.kind,k.label)):=by
     have:((fnd q u).kids.take k++x::(fnd q u).kids.drop k).Perm (x::(fnd q u).kids):=by
      have:=perm_middle (a:=x) (l₁:=(fnd q u).kids.take k) (l₂:=(fnd q u).kids.drop k)
      rw[etd]at this
      exact this
     exact this.map _
    exact hp2.nodup_iff.2 (nodup_cons.2 ⟨hno,this⟩)
   ·unfold insAt
    have:((fnd q u).kids.take k++x::(fnd q u).kids.drop k).length=(fnd q u).kids.length+1:=by
     conv=>rhs;rw[←etd]
     simp;omega
    rw[this];omega
  ·exact h.node z (by
    have:z∈(fnd q u).flat:=by rw[U.flat_eq];exact mem_cons_of_mem _ hz
    obtain⟨y,hy,hz⟩:=bN hz
    have hk:=dM hf hy
    have hsub:∀{v:U},v∈u.flat->∀w∈v.flat,w∈u.flat:=by
     intro v hv w hw
     revert hw
     revert hv
     revert w
     refine U.ind (p:=λv=>∀w,v∈u.flat->w∈v.flat->w∈u.flat) (λv ih w hv hw=>?_) v
     rw[U.flat_eq]at hw
     rcases mem_cons.1 hw with rfl|hw
     ·exact hv
     ·obtain⟨y,hy,hw⟩:=bN hw
      exact ih y hy w (dM hv hy) hw
    exact hsub hk z hz)
  ·exact hx z hz
 ·have:=(gb (f:=λy=>{y with kids:=insAt y.kids k x}) u h.nd hq)
  have h2:=deep_ins (y:=fnd q u) (x:=x) (k:=k)
  have h3:=h.dep
  have h4:=gH hq
  omega
 ·have:=hp.length_eq
  rw[length_append,U.ids_len,U.ids_len,U.ids_len]at this
  omega
 ·rw[hr.kind,hr.id];exact h.root
 ·intro hk hm
  rw[hr.kind]at hk
  have:=hp.mem_iff.1 hm
  rcases mem_append.1 this with hm|hm
  ·exact h.zero hk hm
  ·exact hz hm
theorem dD {u v:U} (hv:v∈u.flat):∀w∈v.flat,w∈u.flat:=by
 intro w hw
 revert hw
 revert hv
 revert w
 refine U.ind (p:=λv=>∀w,v∈u.flat->w∈v.flat->w∈u.flat) (λv ih w hv hw=>?_) v
 rw[U.flat_eq]at hw
 rcases mem_cons.1 hw with rfl|hw
 ·exact hv
 ·obtain⟨y,hy,hw⟩:=bN hw
  exact ih y hy w (dM hv hy) hw
theorem cN {u:U} (h:Good u) {i:Idd} (hi:i∈u.ids) (hne:u.id≠i):Good (without i u)/\Root u (without i u)/\(without i u).deep<=u.deep/\(∃A B,A≠[]/\u.ids=A++((fnd i u).ids++B)/\(without i u).ids=A++B):=by
 obtain⟨own,d,j,w1,w2,hp⟩:=bt h.nd hi hne
 obtain⟨a,x,b,s,hx,hj,hl⟩:=hp.split
 have hfx:fnd i u=x:=aB hl
 subst hj
 have hW:without i u=U.wth own.id (λy=>{y with kids:=delAt y.kids a.length}) u:=by unfold without;rw[w1]
 rw[hW,hfx]
 obtain⟨l,r,e1,e2⟩:=gO (f:=λy=>{y with kids:=delAt y.kids a.length}) u h.nd hp.mem
 rw[hp.fnd]at e1 e2
 rw[s.eq,bO]at e2
 have hids:∃A B,A≠[]/\u.ids=A++(x.ids++B)/\(U.wth own.id (λy=>{y with kids:=delAt y.kids a.length}) u).ids=A++B:=by
  refine⟨l++(own.id::U.idss a),U.idss b++r,by simp,?_,?_⟩
  ·rw[e1,U.ids_eq,s.eq,U.idss_app,U.idss_cons];simp[append_assoc]
  ·rw[e2,U.ids_eq]
   simp only
   rw[U.idss_app];simp[append_assoc]
 have hr:Root u (U.wth own.id (λy=>{y with kids:=delAt y.kids a.length}) u):=gC (g:=λl=>delAt l a.length)
 have hown:own∈u.flat:=by
  have:=aP u h.nd hp.mem
  rw[hp.fnd]at this;exact this
 obtain⟨A,B,hA,f1,f2⟩:=hids
 have hsub:(U.wth own.id (λy=>{y with kids:=delAt y.kids a.length}) u).ids.Sublist u.ids:=by
  rw[f1,f2]
  exact(List.Sublist.refl A).append (sublist_append_right _ _)
 have hdp:(U.wth own.id (λy=>{y with kids:=delAt y.kids a.length}) u).deep<=u.deep:=by
  have h1:=(gb (f:=λy=>{y with kids:=delAt y.kids a.length}) u h.nd hp.mem)
  rw[hp.fnd]at h1
  have h2:({own with kids:=delAt own.kids a.length}:U).deep<=own.deep:=by
   rw[U.deep_eq,U.deep_eq own,s.eq]
   simp only
   rw[bO,eh,eh,U.deeps]
   omega
  omega
 refine⟨⟨h.nd.sublist hsub,?_,Nat.le_trans hdp h.dep,?_,?_,?_⟩,hr,hdp,A,B,hA,f1,f2⟩
 ·refine gE (f:=λy=>{y with kids:=delAt y.kids a.length}) (λ_=>rfl) u h.nd hp.mem h.node ?_
  rw[hp.fnd]
  intro z hz
  rw[U.flat_eq]at hz
  simp only at hz
  rw[s.eq,bO,cJ,mem_cons,mem_append]at hz
  rcases hz with rfl|hz|hz
  ·have hnf:=h.node own hown
   unfold nodeOk at hnf ⊢
   simp only[Bool.and_eq_true,decide_eq_true_eq]at hnf ⊢
   rw[s.eq]at hnf
   refine⟨hnf.1,⟨?_,?_⟩,?_⟩
   ·have:=hnf.2.1.1
    rw[all_append,all_cons,Bool.and_eq_true,Bool.and_eq_true]at this
    rw[all_append,this.1,this.2.2];rfl
   ·have:=hnf.2.1.2
    unfold Apart at this ⊢
    refine this.sublist (List.Sublist.map _ ?_)
    exact(List.Sublist.refl a).append (sublist_cons_self _ _)
   ·have:=hnf.2.2
    simp at this ⊢
    omega
  ·obtain⟨y,hy,hz⟩:=bN hz
   exact h.node z (dD hown z (U.flat_kid (by rw[s.eq];simp[hy]) hz))
  ·obtain⟨y,hy,hz⟩:=bN hz
   exact h.node z (dD hown z (U.flat_kid (by rw[s.eq];simp[hy]) hz))
 ·have:=hsub.length_le
  rw[U.ids_len,U.ids_len]at this
  exact Nat.le_trans this h.cnt
 ·rw[hr.kind,hr.id];exact h.root
 ·intro hk hm
  rw[hr.kind]at hk
  exact h.zero hk (hsub.subset hm)
/-! ### stamps -/
theorem U.stamp_eq (a b:Int) (u:U) (n m:Int):U.stamp a b u n m=(⟨⟨a,b,n⟩,u.kind,u.label,aX a b (u.head.map Wd.text) m,aX a b (u.words.map Wd.text) (m+u.head.length),(U.stamps a b u.kids (n+1) (m+u.head.length+u.words.length)).1⟩,(U.stamps a b u.kids (n+1) (m+u.head.length+u.words.length)).2):=by
 cases u;rw[U.stamp]
theorem U.stamps_nil (a b:Int) (n m:Int):U.stamps a b [] n m=([],n,m):=by rw[U.stamps]
theorem U.stamps_cons (a b:Int) (u:U) (us:List U) (n m:Int):U.stamps a b (u::us) n m=((U.stamp a b u n m).1::(U.stamps a b us (U.stamp a b u n m).2.1 (U.stamp a b u n m).2.2).1,(U.stamps a b us (U.stamp a b u n m).2.1 (U.stamp a b u n m).2.2).2):=by rw[U.stamps]
def idRow (a b n:Int) (k:Nat):List Idd:=(List.range k).map λj:Nat=>(⟨a,b,n+(j:Int)⟩:Idd)
theorem lu (a b n:Int) (k l:Nat):idRow a b n (k+l)=idRow a b n k++idRow a b (n+k) l:=by
 unfold idRow
 rw[range_add,map_append,map_map]
 congr 1
 refine map_congr_left λj _=>?_
 simp only[Function.comp]
 congr 1
 omega
theorem idRow_nd (a b n:Int) (k:Nat):(idRow a b n k).Nodup:=by
 unfold idRow
 refine pairwise_map.2 (List.Pairwise.imp (λh e=>h ?_) (nodup_range (n:=k)))
 injection e with _ _ e
 omega
structure StampOk (a b:Int) (u:U) (n m:Int) (q:U×Int×Int):Prop where
 ids:q.1.ids=idRow a b n u.flat.length
 next:q.2.1=n+u.flat.length
 deep:q.1.deep=u.deep
 len:q.1.flat.length=u.flat.length
 key:q.1.key=u.key
 node:∀z∈q.1.flat,∃y∈u.flat,nodeOk z=nodeOk y
structure StampsOk (a b:Int) (us:List U) (n m:Int) (q:List U×Int×Int):Prop where
 ids:U.idss q.1=idRow a b n (U.flats us).length
 next:q.2.1=n+(U.flats us).length
 deep:U.deeps q.1=U.deeps us
 len:(U.flats q.1).length=(U.flats us).length
 key:q.1.map U.key=us.map U.key
 node:∀z∈U.flats q.1,∃y∈U.flats us,nodeOk z=nodeOk y
theorem k9 (a b:Int) (l:List Wd) (m:Int):aU (aX a b (l.map Wd.text) m)=aU l/\(aX a b (l.map Wd.text) m).length=l.length:=by
 have e1:(aX a b (l.map Wd.text) m).length=l.length:=by rw[cH,length_map]
 have e2:∀(l:List Wd) (m:Int),(aX a b (l.map Wd.text) m).all wdOk=l.all wdOk:=by
  intro l
  induction l with
  |nil=>intro m;rfl
  |cons w l ih=>intro m;rw[map_cons,aX,all_cons,all_cons,ih];rfl
 unfold aU
 rw[e1,e2]
 exact⟨rfl,rfl⟩
theorem gL (a b:Int):∀{us:List U},(∀k∈us,∀n m,StampOk a b k n m (U.stamp a b k n m))->∀n m,StampsOk a b us n m (U.stamps a b us n m)
 |[],_,n,m=>by
  rw[U.stamps_nil]
  refine⟨?_,?_,rfl,rfl,rfl,?_⟩
  ·rw[U.idss_nil,flats_nil];rfl
  ·rw[flats_nil];simp
  ·intro z hz;rw[flats_nil]at hz;cases hz
 |u::us,h,n,m=>by
  obtain⟨i1,x1,d1,l1,k1,n1⟩:=h u (by simp) n m
  have ih:=gL a b (us:=us) (λk hk=>h k (by simp[hk])) (U.stamp a b u n m).2.1 (U.stamp a b u n m).2.2
  obtain⟨i2,x2,d2,l2,k2,n2⟩:=ih
  rw[U.stamps_cons]
  refine⟨?_,?_,?_,?_,?_,?_⟩
  ·simp only
   rw[U.idss_cons,i1,i2,x1,flats_cons,length_append,lu]
  ·simp only
   rw[x2,x1,flats_cons,length_append];omega
  ·simp only
   rw[U.deeps,U.deeps,d1,d2]
  ·simp only
   rw[flats_cons,flats_cons,length_append,length_append,l1,l2]
  ·simp only
   rw[map_cons,map_cons,k1,k2]
  ·intro z hz
   simp only at hz
   rw[flats_cons,mem_append]at hz
   rcases hz with hz|hz
   ·obtain⟨y,hy,e⟩:=n1 z hz
    exact⟨y,by rw[flats_cons];exact mem_append.2 (.inl hy),e⟩
   ·obtain⟨y,hy,e⟩:=n2 z hz
    exact⟨y,by rw[flats_cons];exact mem_append.2 (.inr hy),e⟩
theorem kh (a b:Int):∀u:U,∀n m,StampOk a b u n m (U.stamp a b u n m):=by
 refine U.ind λu ih n m=>?_
 obtain⟨i2,x2,d2,l2,k2,n2⟩:=gL a b ih (n+1) (m+u.head.length+u.words.length)
 rw[U.stamp_eq]
 refine⟨?_,?_,?_,?_,rfl,?_⟩
 ·rw[U.ids_eq]
  simp only
  rw[i2,U.flat_eq u,length_cons,Nat.add_comm,lu]
  unfold idRow
  simp
 ·simp only
  rw[x2,U.flat_eq u,length_cons];omega
 ·rw[U.deep_eq,U.deep_eq u];exact d2
 ·rw[U.flat_eq,U.flat_eq u,length_cons,length_cons];simp only;rw[l2]
 ·intro z hz
  rw[U.flat_eq]at hz
  rcases mem_cons.1 hz with rfl|hz
  ·refine⟨u,u.flat_self,fQ rfl rfl ?_ ?_ k2⟩
   ·exact k9 a b u.head m
   ·exact k9 a b u.words _
  ·obtain⟨y,hy,e⟩:=n2 z hz
   exact⟨y,by rw[U.flat_eq];exact mem_cons_of_mem _ hy,e⟩
theorem je (u:U) (a b:Int) (h:∀y∈u.flat,nodeOk y=true):(cz u a b).ids=idRow a b 1 u.flat.length/\(cz u a b).deep=u.deep/\(cz u a b).flat.length=u.flat.length/\(cz u a b).key=u.key/\∀z∈(cz u a b).flat,nodeOk z=true:=by
 obtain⟨i1,x1,d1,l1,k1,n1⟩:=kh a b u 1 0
 refine⟨i1,d1,l1,k1,λz hz=>?_⟩
 obtain⟨y,hy,e⟩:=n1 z hz
 rw[e];exact h y hy
theorem pj (a b:Int) (k:Nat):zId∉idRow a b 1 k:=by
 intro h
 obtain⟨j,_,e⟩:=mem_map.1 h
 injection e with _ _ e
 omega
/-! ### words -/
theorem iS {a b:Int}:∀{l:List (List UInt8)} {m:Int},l.all bf=true->(aX a b l m).all wdOk=true
 |[],_,_=>rfl
 |s::l,m,h=>by
  rw[all_cons,Bool.and_eq_true]at h
  rw[aX,all_cons,Bool.and_eq_true]
  exact⟨h.1,iS h.2⟩
theorem all_take {α:Type} {p:α->Bool} {l:List α} (h:l.all p=true) (k:Nat):(l.take k).all p=true:=all_eq_true.2 λx hx=>all_eq_true.1 h x (mem_of_mem_take hx)
theorem nB {α:Type} {p:α->Bool} {l:List α} (h:l.all p=true) (k:Nat):(l.drop k).all p=true:=all_eq_true.2 λx hx=>all_eq_true.1 h x (mem_of_mem_drop hx)
theorem kW {w:List Wd} {fresh:List (List UInt8)} {a b:Int} {gone:Nat} (hw:w.all wdOk=true) (hf:fresh.all bf=true):∀(ps:List Nat) (s:Nat) (m:Int),(fJ w fresh a b gone s ps m).all wdOk=true
 |[],s,m=>by rw[fJ];exact nB hw s
 |p::ps,s,m=>by
  rw[fJ,all_append,all_append,nB (all_take hw p) s,iS hf,kW hw hf ps];rfl
theorem dB {l:List (List UInt8)} (h:dq l=true):l.all bf=true/\l.length<=256:=by
 unfold dq at h
 simp only[Bool.and_eq_true,decide_eq_true_eq]at h
 exact⟨h.2,by omega⟩
theorem rowOk_all {l:List Wd} (h:aU l=true):l.all wdOk=true:=by
 unfold aU at h
 simp only[Bool.and_eq_true]at h
 exact h.2
theorem iM {l:List Wd} (h:l.all wdOk=true) (hl:¬256<l.length):aU l=true:=by
 unfold aU
 rw[h,decide_eq_true (by omega)];rfl
theorem editE_ok {w:List Wd} {x:Itm} {a b:Int} (hw:aU w=true) (hn:dq x.new=true) (he:(bJ w x a b).2=0):aU (bJ w x a b).1=true:=by
 have h1:=rowOk_all hw
 have h2:=(dB hn).1
 unfold bJ at he ⊢
 split
 ·split
  ·rename_i h3 h4;rw[if_pos h3,if_pos h4]at he;cases he
  ·rename_i h4
   exact iM (by rw[all_append,iS h2,h1];rfl) h4
 ·rename_i h3
  rw[if_neg h3]at he
  split
  ·rename_i h4;rw[if_pos h4]at he;cases he
  ·rename_i h4
   rw[if_neg h4]at he
   split
   ·rename_i h5
    rw[if_pos h5]at he
    split
    ·rename_i h6;rw[if_pos h6]at he;cases he
    ·rename_i h6;exact iM (kW h1 h2 _ _ _) h6
   ·rename_i h5
    rw[if_neg h5]at he
    split
    ·rename_i h6;rw[if_pos h6]at he;cases he
    ·rename_i h6;exact iM (kW h1 h2 _ _ _) h6
theorem io {u:U} (h:Good u) {i:Idd} (hi:i∈u.ids) (hne:u.id≠i) {f:U->U} (hid:∀y,(f y).id=y.id) (hks:∀y,(f y).kids=y.kids) (hn:∀z∈(U.wth i f u).flat,nodeOk z=true):Good (U.wth i f u)/\Root u (U.wth i f u):=by
 have hr:Root u (U.wth i f u):=oR hne
 obtain⟨l,r,e1,e2⟩:=gO (f:=f) u h.nd hi
 have he:(U.wth i f u).ids=u.ids:=by rw[e1,e2,U.ids_eq,hid,hks,U.ids_eq (fnd i u)]
 refine⟨⟨by rw[he];exact h.nd,hn,?_,?_,?_,?_⟩,hr⟩
 ·have h1:=gb (f:=f) u h.nd hi
  have h2:(f (fnd i u)).deep=(fnd i u).deep:=by rw[U.deep_eq,U.deep_eq (fnd i u),hks]
  have h3:=h.dep
  omega
 ·have:=congrArg List.length he
  rw[U.ids_len,U.ids_len]at this
  rw[this];exact h.cnt
 ·rw[hr.kind,hr.id];exact h.root
 ·rw[hr.kind,he];exact h.zero
theorem fp {y:U} (h:nodeOk y=true) (hk:y.kind≠0):br y.label=true/\aU y.head=true/\aU y.words=true:=by
 unfold nodeOk own1 at h
 rw[if_neg hk]at h
 simp only[Bool.and_eq_true]at h
 exact⟨h.1.2.1,h.1.2.2.1,h.1.2.2.2⟩
theorem oy {y:U} (h:nodeOk y=true) (hk:y.kind≠0) {w:List Wd} (hw:aU w=true):nodeOk {y with words:=w}=true:=by
 unfold nodeOk own1 at h ⊢
 simp only at h ⊢
 rw[if_neg hk]at h ⊢
 rw[hw,Bool.and_true]
 simp only[Bool.and_eq_true]at h ⊢
 exact⟨⟨h.1.1,h.1.2.1,h.1.2.2.1⟩,h.2⟩
theorem node_head {y:U} (h:nodeOk y=true) (hk:y.kind≠0) {w:List Wd} (hw:aU w=true):nodeOk {y with head:=w}=true:=by
 unfold nodeOk own1 at h ⊢
 simp only at h ⊢
 rw[if_neg hk]at h ⊢
 rw[hw,Bool.true_and]
 simp only[Bool.and_eq_true]at h ⊢
 exact⟨⟨h.1.1,h.1.2.1,h.1.2.2.2⟩,h.2⟩
theorem kx {y z:U} (h:z.kids=y.kids):∀v∈z.flat,v=z\/v∈y.flat:=by
 intro v hv
 rw[U.flat_eq,h]at hv
 rcases mem_cons.1 hv with rfl|hv
 ·exact .inl rfl
 ·exact .inr (by rw[U.flat_eq];exact mem_cons_of_mem _ hv)
theorem gj {x:Itm} (h:x.may=true):x.own (Itm.mayOne x.by_)=true:=by
 rw[Itm.may_eq,Bool.and_eq_true]at h
 exact h.2
theorem fd {x:Itm} (h:x.may=true) (hk:x.kind=0\/x.kind=6):0<=x.wh/\x.wh<=3:=by
 have:=gj h
 unfold Itm.own inR at this
 rcases hk with hk|hk<;>simp[hk]at this<;>omega
theorem mp {x:Itm} (h:x.may=true) (hk:x.kind=2\/x.kind=3\/x.kind=4):dq x.new=true:=by
 have:=gj h
 unfold Itm.own cX at this
 rcases hk with hk|hk|hk<;>simp[hk]at this<;>simp[this]
theorem pg {x:Itm} (h:x.may=true) (hk:x.kind=5):br x.label=true:=by
 have:=gj h
 unfold Itm.own at this
 simpa[hk]using this
theorem kD {x:Itm} (h:x.may=true) (hk:x.kind=0):∀y∈x.unit.flat,nodeOk y=true:=by
 have:=gj h
 unfold Itm.own at this
 simp only[hk,if_true,Bool.and_eq_true]at this
 have h2:=this.2.1
 rw[gZ]at h2
 unfold bareOk2 treeOk2 at h2
 simp only[Bool.and_eq_true]at h2
 exact all_eq_true.1 h2.1.1
theorem iy {u:U} (hn:u.ids.Nodup) {i q:Idd} (hi:i∈u.ids) {wh:Int} {k:Nat} (h:spot u i wh=some (q,k)):q∈u.ids:=by
 unfold spot at h
 split at h
 ·injection h with h;injection h with h1 h2;subst h1;exact hi
 ·split at h
  ·injection h with h;injection h with h1 h2;subst h1;exact hi
  ·obtain⟨⟨p,d,j⟩,e,e2⟩:=Option.map_eq_some_iff.1 h
   injection e2 with e3 e4
   subst e3
   exact(et u hn hi e).mem
theorem ins_good {u:U} (h:Good u) {i:Idd} (hi:i∈u.ids) {d:Dd} (hm:d.it.may=true) (hk:d.it.kind=0):Good (insP u i d).1/\Root u (insP u i d).1:=by
 unfold insP
 split
 ·exact⟨h,Root.refl u⟩
 ·rename_i q k e
  have hq:=iy h.nd hi e
  obtain⟨s1,s2,s3,s4,s5⟩:=je d.it.unit d.act d.item (kD hm hk)
  obtain⟨x,hx⟩:∃x,cz d.it.unit d.act d.item=x:=⟨_,rfl⟩
  rw[hx]at s1 s2 s3 s4 s5 ⊢
  split
  ·exact⟨h,Root.refl u⟩
  ·rename_i ht
   split
   ·exact⟨h,Root.refl u⟩
   ·rename_i hf
    split
    ·exact⟨h,Root.refl u⟩
    ·rename_i hx2
     simp only[not_or,Int.not_le,Int.not_lt,Nat.not_le]at hf
     obtain⟨f1,f2,f3⟩:=hf
     have hno:∀y∈x.ids,y∉u.ids:=by
      intro y hy hyu
      exact hx2 (any_eq_true.2 ⟨y,hy,decide_eq_true hyu⟩)
     refine⟨nP h hq s5 ?_ ?_ k ht f1 ?_ ?_,gC (g:=λl=>insAt l k x)⟩
     ·rw[nodup_append]
      refine⟨h.nd,by rw[s1];exact idRow_nd _ _ _ _,?_⟩
      intro a ha b hb e2
      subst e2
      exact hno a hb ha
     ·rw[s1];exact pj _ _ _
     ·unfold U.dep at f2;omega
     ·unfold U.cnt at f3;omega
theorem mov_good {u:U} (h:Good u) {i t:Idd} (hi:i∈u.ids) (hne:u.id≠i) (ht:t∈u.ids) {d:Dd} (h0:0<=d.it.wh) (h3:d.it.wh<=3):Good (movP u i t d).1/\Root u (movP u i t d).1:=by
 obtain⟨g1,g2,g3,A,B,hA,e1,e2⟩:=cN h hi hne
 obtain⟨own,dO,j,w1,w2,hp⟩:=bt h.nd hi hne
 obtain⟨a,x,b,s,hx,hj,hl⟩:=hp.split
 have hfx:fnd i u=x:=aB hl
 have hxf:=aP u h.nd hi
 unfold movP
 split
 ·exact⟨h,Root.refl u⟩
 ·rename_i q k e
  split
  ·exact⟨h,Root.refl u⟩
  ·rename_i htk
   split
   ·exact⟨h,Root.refl u⟩
   ·rename_i hf
    rw[not_or]at hf
    obtain⟨f1,f2⟩:=hf
    have hq:q∈(without i u).ids:=by
     have hqu:q∈u.ids/\q∉(fnd i u).ids:=by
      unfold dY at e
      rw[w1]at e
      simp only at e
      split at e
      ·cases e
      ·rename_i hc
       rw[not_or]at hc
       split at e
       ·injection e with e;injection e with e3 e4
        subst e3
        refine⟨hp.mem,?_⟩
        rw[hfx]
        have:=(U.nd_kids hp.nd).2
        rw[s.eq,U.idss_app,U.idss_cons]at this
        exact λhm=>this (mem_append.2 (.inr (mem_append.2 (.inl hm))))
       ·rename_i hti
        obtain⟨⟨q',k'⟩,e5,e6⟩:=Option.map_eq_some_iff.1 e
        injection e6 with e7 e8
        subst e7
        have hr:¬(besides d.it.wh=true/\t=u.id):=by
         rintro⟨r1,r2⟩
         have hh:d.it.wh=2\/d.it.wh=3:=by simpa[besides]using r1
         unfold spot at e5
         rw[cB r2.symm]at e5
         rcases hh with hh|hh<;>simp[hh]at e5
        obtain⟨P,dp,k2,hg⟩:=jP h.nd ht h0 h3 hr
        have:=hg.spot
        rw[e5]at this
        injection this with this
        injection this with e9 e10
        simp only at e9 ⊢
        rw[e9]
        refine⟨hg.mem,hg.out i hi λhm=>?_⟩
        exact hc.1 ((gl u h.nd ht hi).2 ⟨hti,hm⟩)
     rw[e2]
     have:=hqu.1
     rw[e1]at this
     rcases mem_append.1 this with hm|hm
     ·exact mem_append.2 (.inl hm)
     ·rcases mem_append.1 hm with hm|hm
      ·exact absurd hm hqu.2
      ·exact mem_append.2 (.inr hm)
    have hperm:((without i u).ids++(fnd i u).ids).Perm u.ids:=by
     rw[e2,e1];exact(nh A _ B).symm
    refine⟨nP g1 hq (λz hz=>h.node z (dD hxf z hz)) (hperm.nodup_iff.2 h.nd) ?_ k htk ?_ ?_ ?_,g2.trans (gC (g:=λl=>insAt l k (fnd i u)))⟩
    ·intro hz
     by_cases hk0:u.kind=0
     ·have hr:=h.root.1 hk0
      have hn:=h.nd
      rw[e1]at hn
      obtain⟨A',hA'⟩:=ids_root e1 hA
      subst hA'
      rw[cons_append,nodup_cons]at hn
      exact hn.1 (by rw[hr];exact mem_append.2 (.inr (mem_append.2 (.inl hz))))
     ·exact h.zero hk0 (mK h.nd hi hz)
    ·by_cases hqo:q=own.id
     ·
      subst hqo
      have hW:without i u=U.wth own.id (λy=>{y with kids:=delAt y.kids j}) u:=by unfold without;rw[w1]
      have hown:own∈u.flat:=by
       have:=aP u h.nd hp.mem
       rw[hp.fnd]at this;exact this
      have hox:own.id∉x.ids:=by
       have:=(U.nd_kids hp.nd).2
       rw[s.eq,U.idss_app,U.idss_cons]at this
       exact λhm=>this (mem_append.2 (.inr (mem_append.2 (.inl hm))))
      subst hj
      have hway:=way_out (t:=own.id) h.nd hp s.eq hox
      have hf2:fnd own.id (without i u)={own with kids:=a++b}:=by
       rw[hW]
       refine aB ?_
       rw[hway,getLast?_map,hp.last,Option.map_some,bA rfl,s.eq,bO]
      rw[hf2]
      have:=cT (h.node own hown)
      rw[s.eq]at this
      simp at this ⊢
      omega
     ·rw[w2]at f1
      apply Classical.byContradiction
      intro hc
      exact f1 ⟨hqo,by omega⟩
    ·unfold U.dep at f2;omega
    ·have:=congrArg List.length e1
     have e3:=congrArg List.length e2
     rw[U.ids_len,length_append,length_append,U.ids_len]at this
     rw[U.ids_len,length_append]at e3
     have:=h.cnt
     omega
theorem fz {u:U} (h:Good u) (d:Dd):Good (doP u d).1/\Root u (doP u d).1:=by
 have h0:Good u/\Root u u:=⟨h,Root.refl u⟩
 unfold doP
 split
 ·exact h0
 rename_i c1
 have hm:d.it.may=true:=by cases hh:d.it.may<;>simp_all
 split
 ·exact h0
 rename_i c2
 have hi:=bZ (u:=u) (p:=d.it.at_) (by simpa using c2)
 obtain⟨i,hie⟩:∃i,(one u d.it.at_).1=i:=⟨_,rfl⟩
 rw[hie]at hi ⊢
 split
 ·rename_i k0
  exact ins_good h hi hm k0
 rename_i k0
 split
 ·split<;>exact h0
 rename_i hiu
 have hne:u.id≠i:=λe=>hiu e.symm
 have hk:=h.kind hi hne
 have hxf:=aP u h.nd hi
 have hnx:=h.node _ hxf
 split
 ·have:=cN h hi hne
  exact⟨this.1,this.2.1⟩
 split
 ·rename_i k2
  split
  ·exact h0
  ·rename_i he
   have hw:=editE_ok (a:=d.act) (b:=d.item) (fp hnx hk).2.2 (mp hm (by omega)) (by simpa using he)
   refine io h hi hne (λ_=>rfl) (λ_=>rfl) (gE (f:=λy=>{y with words:=(bJ (fnd i u).words d.it d.act d.item).1}) (λ_=>rfl) u h.nd hi h.node λz hz=>?_)
   rcases kx (y:=fnd i u) (z:={fnd i u with words:=(bJ (fnd i u).words d.it d.act d.item).1}) rfl z hz with rfl|hz
   ·exact oy hnx hk hw
   ·exact h.node z (dD hxf z hz)
 split
 ·rename_i k4
  have hw:aU (aX d.act d.item d.it.new 0)=true:=by
   have:=dB (mp hm (.inr (.inr k4)))
   exact iM (iS this.1) (by rw[cH];omega)
  refine io h hi hne (λ_=>rfl) (λ_=>rfl) (gE (f:=λy=>{y with head:=aX d.act d.item d.it.new 0}) (λ_=>rfl) u h.nd hi h.node λz hz=>?_)
  rcases kx (y:=fnd i u) (z:={fnd i u with head:=aX d.act d.item d.it.new 0}) rfl z hz with rfl|hz
  ·exact node_head hnx hk hw
  ·exact h.node z (dD hxf z hz)
 split
 ·rename_i k5
  split
  ·exact h0
  ·rename_i ht
   refine io h hi hne (λ_=>rfl) (λ_=>rfl) (nT u h.nd hi hne h.node (pg hm k5) (λp dd j e=>?_) hk)
   have hp:=et u h.nd hi e
   obtain⟨a,k,b,s,hkk,hj,hl⟩:=hp.split
   have hpr:(parR i u).1=p:=by unfold parR;rw[par_way u h.nd hi,e];rfl
   rw[hpr]at ht
   have hpf:p∈u.flat:=by
    have:=aP u h.nd hp.mem
    rw[hp.fnd]at this;exact this
   have hnest:=df (h.node p hpf) k (by rw[s.eq];simp)
   have hfk:fnd i u=k:=aB hl
   rw[hfk]at ht ⊢
   cases htt:taken p.kids k.kind d.it.label with
   |false=>rfl
   |true=>exact absurd (by unfold dR;simp only;rw[hnest,htt];simp) ht
 split
 ·exact h0
 rename_i c7
 have ht:=bZ (u:=u) (p:=d.it.to_) (by simpa using c7)
 have hk6:d.it.kind=6:=by
  have:chg d.it.kind=true:=by cases hh:chg d.it.kind<;>simp_all
  simp only[chg,Bool.and_eq_true,decide_eq_true_eq]at this
  omega
 have hw:=fd hm (.inr hk6)
 exact mov_good h hi hne ht hw.1 hw.2
theorem nO {s:List UInt8} (h:br s=true):s.length<=7:=by
 unfold br at h
 simp only[Bool.and_eq_true,decide_eq_true_eq]at h
 omega
theorem lD {l:List Wd} (h:aU l=true):l.length<=256/\∀w∈l,w.text.length<=24:=by
 unfold aU at h
 simp only[Bool.and_eq_true,decide_eq_true_eq]at h
 refine⟨by omega,λw hw=>?_⟩
 have:=all_eq_true.1 h.2 w hw
 unfold wdOk bf at this
 simp only[Bool.and_eq_true,decide_eq_true_eq]at this
 omega
structure Slim (y:U):Prop where
 label:y.label.length<=7
 head:y.head.length<=256/\∀w∈y.head,w.text.length<=24
 words:y.words.length<=256/\∀w∈y.words,w.text.length<=24
 kids:y.kids.length<=64
theorem dN {y:U} (h:nodeOk y=true):Slim y:=by
 have hk:=cT h
 by_cases h0:y.kind=0
 ·unfold nodeOk own1 at h
  rw[if_pos h0]at h
  simp only[Bool.and_eq_true,decide_eq_true_eq]at h
  obtain⟨⟨h1,h2,h3⟩,_⟩:=h
  have e2:y.head=[]:=eq_nil_of_length_eq_zero (by omega)
  have e3:y.words=[]:=eq_nil_of_length_eq_zero (by omega)
  exact⟨by rw[h1];simp,by rw[e2];simp,by rw[e3];simp,hk⟩
 ·obtain⟨h1,h2,h3⟩:=fp h h0
  exact⟨nO h1,lD h2,lD h3,hk⟩
theorem slim_fit:∀u:U,(∀y∈u.flat,Slim y)->u.fit:=by
 refine U.ind λu ih h=>?_
 have hu:=h u u.flat_self
 refine(U.fit_eq u).2 ⟨by have:=hu.label;omega,⟨by have:=hu.head.1;omega,λx hx=>by have:=hu.head.2 x hx;omega⟩,⟨by have:=hu.words.1;omega,λx hx=>by have:=hu.words.2 x hx;omega⟩,by have:=hu.kids;omega,λk hk=>?_⟩
 exact ih k hk λy hy=>h y (U.flat_kid hk hy)
theorem gc {u:U} (h:∀y∈u.flat,nodeOk y=true) (hc:u.flat.length<1000000):u.Short:=by
 refine⟨⟨slim_fit u λy hy=>dN (h y hy),hc⟩,λx hx=>?_⟩
 have s:=dN (h x hx)
 exact⟨by have:=s.label;omega,by have:=s.head.1;omega,by have:=s.words.1;omega,λw hw=>by have:=s.head.2 w hw;omega,λw hw=>by have:=s.words.2 w hw;omega⟩
theorem Good.short {u:U} (h:Good u):u.Short:=gc h.node (by have:=h.cnt;omega)
end Go.Av
namespace Go.Av
open Go Go.RowKit List
set_option linter.unusedSimpArgs false
set_option linter.unusedVariables false
section
variable {G:Glob} {P:Program} {σ ρ:Store} {w:World} {env:Env} {K:AV->Store->Prop}
theorem bY {t tx e e':TypeId} {sz bytes:Nat} {x y:Operand} {rows ys:List (List AV)} {g:Option Nat} {xv:AV}
  (hu:P.underlying t=some (.slice e)) (hk:P.underlying tx=some (.slice e')) (hi:(P.info? e).map (λi=>(i.size,i.bytes))=some (sz,bytes)) (hz:(cK P e).map List.length=some sz) (hpos:sz≠0) (hb0:bytes≠0)
  (hxv:(SOpd.of x).eval G env=xv) (hW:WS σ e sz xv rows g) (hys:srcX sz ((SOpd.of y).eval G env) λl=>l=ys) (hbytes:(rows.length+ys.length)*bytes<=140737488355328)
  (hk0:rows=[]->ys=[]->K xv σ)
  (hk1:∀b cap pad,b∉(σ.erase g).keys->(rows++ys).length<=cap->cap<=maxLen->(∀r∈rows++ys,r.length=sz)->((rows++ys).flatten++pad).length=cap*sz->
   K (.sc (.slice (some ⟨b,0,none⟩) (rows++ys).length cap)) ((b,.cells e ((rows++ys).flatten++pad))::σ.erase g)):RAW G P (.call (.mk (.builtin .append) #[x,y] #[t,tx])) env σ K ⟨⟩:=by
 obtain⟨i,hi',he⟩:=Option.map_eq_some_iff.1 hi
 obtain⟨z,hz',hzl⟩:=Option.map_eq_some_iff.1 hz
 simp only[Prod.mk.injEq]at he
 obtain⟨rfl,rfl⟩:=he
 exact nH (ty:=0) hu hk hi' hz' hzl hpos hb0 hxv hW hys hbytes hk0 hk1
end
end Go.Av
