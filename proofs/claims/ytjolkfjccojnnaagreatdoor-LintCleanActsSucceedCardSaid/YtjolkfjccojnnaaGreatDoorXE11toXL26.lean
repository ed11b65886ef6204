/-
  ENACT, 11: a unit stamped; a book behind an item.
-/
import Derived.Test.YtjolkfjccojnnaaGreatDoorXE8toXE10
import Derived.Test.YtjolkfjccojnnaaGreatDoorXAv26toXOpenG
import Derived.Test.YtjolkfjccojnnaaGreatDoorXC1
import Derived.Test.YtjolkfjccojnnaaGreatDoorXC2
import Derived.Test.YtjolkfjccojnnaaGreatDoorXC3
namespace Go.Av
open Go Go.RowKit Go.Proofs List
set_option linter.unusedSimpArgs false
set_option linter.unusedVariables false
/-! ### stamps -/
theorem U.stamp_eq (a b:Int) (u:U) (n m:Int):U.stamp a b u n m=(⟨⟨a,b,n⟩,u.kind,u.label,dP a b (u.head.map Wd.text) m,dP a b (u.words.map Wd.text) (m+u.head.length),(U.stamps a b u.kids (n+1) (m+u.head.length+u.words.length)).1⟩,(U.stamps a b u.kids (n+1) (m+u.head.length+u.words.length)).2):=by
 cases u;rw[U.stamp]
theorem U.stamps_nil (a b:Int) (n m:Int):U.stamps a b [] n m=([],n,m):=by rw[U.stamps]
theorem U.stamps_cons (a b:Int) (u:U) (us:List U) (n m:Int):U.stamps a b (u::us) n m=((U.stamp a b u n m).1::(U.stamps a b us (U.stamp a b u n m).2.1 (U.stamp a b u n m).2.2).1,(U.stamps a b us (U.stamp a b u n m).2.1 (U.stamp a b u n m).2.2).2):=by rw[U.stamps]
def idRow (a b n:Int) (k:Nat):List Idd:=(List.range k).map λj:Nat=>(⟨a,b,n+(j:Int)⟩:Idd)
theorem mB (a b n:Int) (k l:Nat):idRow a b n (k+l)=idRow a b n k++idRow a b (n+k) l:=by
 unfold idRow
 rw[range_add,map_append,map_map]
 congr 1
 refine map_congr_left λj _=>?_
 simp only[Function.comp]
 congr 1
 omega
theorem idRow_nd (a b n:Int) (k:Nat):(idRow a b n k).Nodup:=by
 unfold idRow
 refine pairwise_map.2 (List.Pairwise.imp (λh e=>h ?_) (nodup_range (n:=k)))
 injection e with _ _ e
 omega
structure StampOk (a b:Int) (u:U) (n m:Int) (q:U×Int×Int):Prop where
 ids:q.1.ids=idRow a b n u.flat.length
 next:q.2.1=n+u.flat.length
 deep:q.1.deep=u.deep
 len:q.1.flat.length=u.flat.length
 key:q.1.key=u.key
 node:∀z∈q.1.flat,∃y∈u.flat,nodeOk z=nodeOk y
structure StampsOk (a b:Int) (us:List U) (n m:Int) (q:List U×Int×Int):Prop where
 ids:U.idss q.1=idRow a b n (U.flats us).length
 next:q.2.1=n+(U.flats us).length
 deep:U.deeps q.1=U.deeps us
 len:(U.flats q.1).length=(U.flats us).length
 key:q.1.map U.key=us.map U.key
 node:∀z∈U.flats q.1,∃y∈U.flats us,nodeOk z=nodeOk y
theorem kJ (a b:Int) (l:List Wd) (m:Int):aS (dP a b (l.map Wd.text) m)=aS l/\(dP a b (l.map Wd.text) m).length=l.length:=by
 have e1:(dP a b (l.map Wd.text) m).length=l.length:=by rw[bq,length_map]
 have e2:∀(l:List Wd) (m:Int),(dP a b (l.map Wd.text) m).all wdOk=l.all wdOk:=by
  intro l
  induction l with
  |nil=>intro m;rfl
  |cons w l ih=>intro m;rw[map_cons,dP,all_cons,all_cons,ih];rfl
 unfold aS
 rw[e1,e2]
 exact⟨rfl,rfl⟩
theorem gL (a b:Int):∀{us:List U},(∀k∈us,∀n m,StampOk a b k n m (U.stamp a b k n m))->∀n m,StampsOk a b us n m (U.stamps a b us n m)
 |[],_,n,m=>by
  rw[U.stamps_nil]
  refine⟨?_,?_,rfl,rfl,rfl,?_⟩
  ·rw[U.idss_nil,bt];rfl
  ·rw[bt];simp
  ·intro z hz;rw[bt]at hz;cases hz
 |u::us,h,n,m=>by
  obtain⟨i1,x1,d1,l1,k1,n1⟩:=h u (by simp) n m
  have ih:=gL a b (us:=us) (λk hk=>h k (by simp[hk])) (U.stamp a b u n m).2.1 (U.stamp a b u n m).2.2
  obtain⟨i2,x2,d2,l2,k2,n2⟩:=ih
  rw[U.stamps_cons]
  refine⟨?_,?_,?_,?_,?_,?_⟩
  ·simp only
   rw[U.idss_cons,i1,i2,x1,aD,length_append,mB]
  ·simp only
   rw[x2,x1,aD,length_append];omega
  ·simp only
   rw[U.deeps,U.deeps,d1,d2]
  ·simp only
   rw[aD,aD,length_append,length_append,l1,l2]
  ·simp only
   rw[map_cons,map_cons,k1,k2]
  ·intro z hz
   simp only at hz
   rw[aD,mem_append]at hz
   rcases hz with hz|hz
   ·obtain⟨y,hy,e⟩:=n1 z hz
    exact⟨y,by rw[aD];exact mem_append.2 (.inl hy),e⟩
   ·obtain⟨y,hy,e⟩:=n2 z hz
    exact⟨y,by rw[aD];exact mem_append.2 (.inr hy),e⟩
theorem lC (a b:Int):∀u:U,∀n m,StampOk a b u n m (U.stamp a b u n m):=by
 refine U.ind λu ih n m=>?_
 obtain⟨i2,x2,d2,l2,k2,n2⟩:=gL a b ih (n+1) (m+u.head.length+u.words.length)
 rw[U.stamp_eq]
 refine⟨?_,?_,?_,?_,rfl,?_⟩
 ·rw[U.ids_eq]
  simp only
  rw[i2,U.flat_eq u,length_cons,Nat.add_comm,mB]
  unfold idRow
  simp
 ·simp only
  rw[x2,U.flat_eq u,length_cons];omega
 ·rw[U.deep_eq,U.deep_eq u];exact d2
 ·rw[U.flat_eq,U.flat_eq u,length_cons,length_cons];simp only;rw[l2]
 ·intro z hz
  rw[U.flat_eq]at hz
  rcases mem_cons.1 hz with rfl|hz
  ·refine⟨u,u.flat_self,gy rfl rfl ?_ ?_ k2⟩
   ·exact kJ a b u.head m
   ·exact kJ a b u.words _
  ·obtain⟨y,hy,e⟩:=n2 z hz
   exact⟨y,by rw[U.flat_eq];exact mem_cons_of_mem _ hy,e⟩
theorem dW (u:U) (a b:Int) (h:∀y∈u.flat,nodeOk y=true):(l6 u a b).ids=idRow a b 1 u.flat.length/\(l6 u a b).deep=u.deep/\(l6 u a b).flat.length=u.flat.length/\(l6 u a b).key=u.key/\∀z∈(l6 u a b).flat,nodeOk z=true:=by
 obtain⟨i1,x1,d1,l1,k1,n1⟩:=lC a b u 1 0
 refine⟨i1,d1,l1,k1,λz hz=>?_⟩
 obtain⟨y,hy,e⟩:=n1 z hz
 rw[e];exact h y hy
theorem oU (a b:Int) (k:Nat):zId∉idRow a b 1 k:=by
 intro h
 obtain⟨j,_,e⟩:=mem_map.1 h
 injection e with _ _ e
 omega
/-! ### words -/
theorem ji {a b:Int}:∀{l:List (List UInt8)} {m:Int},l.all bQ=true->(dP a b l m).all wdOk=true
 |[],_,_=>rfl
 |s::l,m,h=>by
  rw[all_cons,Bool.and_eq_true]at h
  rw[dP,all_cons,Bool.and_eq_true]
  exact⟨h.1,ji h.2⟩
theorem all_take {α:Type} {p:α->Bool} {l:List α} (h:l.all p=true) (k:Nat):(l.take k).all p=true:=all_eq_true.2 λx hx=>all_eq_true.1 h x (mem_of_mem_take hx)
theorem nK {α:Type} {p:α->Bool} {l:List α} (h:l.all p=true) (k:Nat):(l.drop k).all p=true:=all_eq_true.2 λx hx=>all_eq_true.1 h x (mem_of_mem_drop hx)
theorem ly {w:List Wd} {fresh:List (List UInt8)} {a b:Int} {gone:Nat} (hw:w.all wdOk=true) (hf:fresh.all bQ=true):∀(ps:List Nat) (s:Nat) (m:Int),(dy w fresh a b gone s ps m).all wdOk=true
 |[],s,m=>by rw[dy];exact nK hw s
 |p::ps,s,m=>by
  rw[dy,all_append,all_append,nK (all_take hw p) s,ji hf,ly hw hf ps];rfl
theorem ec {l:List (List UInt8)} (h:dU l=true):l.all bQ=true/\l.length<=256:=by
 unfold dU at h
 simp only[Bool.and_eq_true,decide_eq_true_eq]at h
 exact⟨h.2,by omega⟩
theorem rowOk_all {l:List Wd} (h:aS l=true):l.all wdOk=true:=by
 unfold aS at h
 simp only[Bool.and_eq_true]at h
 exact h.2
theorem jp {l:List Wd} (h:l.all wdOk=true) (hl:¬256<l.length):aS l=true:=by
 unfold aS
 rw[h,decide_eq_true (by omega)];rfl
theorem editE_ok {w:List Wd} {x:Itm} {a b:Int} (hw:aS w=true) (hn:dU x.new=true) (he:(hY w x a b).2=0):aS (hY w x a b).1=true:=by
 have h1:=rowOk_all hw
 have h2:=(ec hn).1
 unfold hY at he ⊢
 split
 ·split
  ·rename_i h3 h4;rw[if_pos h3,if_pos h4]at he;cases he
  ·rename_i h4
   exact jp (by rw[all_append,ji h2,h1];rfl) h4
 ·rename_i h3
  rw[if_neg h3]at he
  split
  ·rename_i h4;rw[if_pos h4]at he;cases he
  ·rename_i h4
   rw[if_neg h4]at he
   split
   ·rename_i h5
    rw[if_pos h5]at he
    split
    ·rename_i h6;rw[if_pos h6]at he;cases he
    ·rename_i h6;exact jp (ly h1 h2 _ _ _) h6
   ·rename_i h5
    rw[if_neg h5]at he
    split
    ·rename_i h6;rw[if_pos h6]at he;cases he
    ·rename_i h6;exact jp (ly h1 h2 _ _ _) h6
theorem iD {u:U} (h:Good u) {i:Idd} (hi:i∈u.ids) (hne:u.id≠i) {f:U->U} (hid:∀y,(f y).id=y.id) (hks:∀y,(f y).kids=y.kids) (hn:∀z∈(U.wth i f u).flat,nodeOk z=true):Good (U.wth i f u)/\Root u (U.wth i f u):=by
 have hr:Root u (U.wth i f u):=pF hne
 obtain⟨l,r,e1,e2⟩:=nx (f:=f) u h.nd hi
 have he:(U.wth i f u).ids=u.ids:=by rw[e1,e2,U.ids_eq,hid,hks,U.ids_eq (fnd i u)]
 refine⟨⟨by rw[he];exact h.nd,hn,?_,?_,?_,?_⟩,hr⟩
 ·have h1:=jf (f:=f) u h.nd hi
  have h2:(f (fnd i u)).deep=(fnd i u).deep:=by rw[U.deep_eq,U.deep_eq (fnd i u),hks]
  have h3:=h.dep
  omega
 ·have:=congrArg List.length he
  rw[U.ids_len,U.ids_len]at this
  rw[this];exact h.cnt
 ·rw[hr.kind,hr.id];exact h.root
 ·rw[hr.kind,he];exact h.zero
theorem kC {y:U} (h:nodeOk y=true) (hk:y.kind≠0):bC y.label=true/\aS y.head=true/\aS y.words=true:=by
 unfold nodeOk own1 at h
 rw[if_neg hk]at h
 simp only[Bool.and_eq_true]at h
 exact⟨h.1.2.1,h.1.2.2.1,h.1.2.2.2⟩
theorem pe {y:U} (h:nodeOk y=true) (hk:y.kind≠0) {w:List Wd} (hw:aS w=true):nodeOk {y with words:=w}=true:=by
 unfold nodeOk own1 at h ⊢
 simp only at h ⊢
 rw[if_neg hk]at h ⊢
 rw[hw,Bool.and_true]
 simp only[Bool.and_eq_true]at h ⊢
 exact⟨⟨h.1.1,h.1.2.1,h.1.2.2.1⟩,h.2⟩
theorem node_head {y:U} (h:nodeOk y=true) (hk:y.kind≠0) {w:List Wd} (hw:aS w=true):nodeOk {y with head:=w}=true:=by
 unfold nodeOk own1 at h ⊢
 simp only at h ⊢
 rw[if_neg hk]at h ⊢
 rw[hw,Bool.true_and]
 simp only[Bool.and_eq_true]at h ⊢
 exact⟨⟨h.1.1,h.1.2.1,h.1.2.2.2⟩,h.2⟩
theorem lw {y z:U} (h:z.kids=y.kids):∀v∈z.flat,v=z\/v∈y.flat:=by
 intro v hv
 rw[U.flat_eq,h]at hv
 rcases mem_cons.1 hv with rfl|hv
 ·exact .inl rfl
 ·exact .inr (by rw[U.flat_eq];exact mem_cons_of_mem _ hv)
theorem gO {x:Itm} (h:x.may=true):x.own (Itm.mayOne x.by_)=true:=by
 rw[Itm.may_eq,Bool.and_eq_true]at h
 exact h.2
theorem eM {x:Itm} (h:x.may=true) (hk:x.kind=0\/x.kind=6):0<=x.wh/\x.wh<=3:=by
 have:=gO h
 unfold Itm.own inR at this
 rcases hk with hk|hk<;>simp[hk]at this<;>omega
theorem ns {x:Itm} (h:x.may=true) (hk:x.kind=2\/x.kind=3\/x.kind=4):dU x.new=true:=by
 have:=gO h
 unfold Itm.own cY at this
 rcases hk with hk|hk|hk<;>simp[hk]at this<;>simp[this]
theorem o0 {x:Itm} (h:x.may=true) (hk:x.kind=5):bC x.label=true:=by
 have:=gO h
 unfold Itm.own at this
 simpa[hk]using this
theorem fh {x:Itm} (h:x.may=true) (hk:x.kind=0):∀y∈x.unit.flat,nodeOk y=true:=by
 have:=gO h
 unfold Itm.own at this
 simp only[hk,if_true,Bool.and_eq_true]at this
 have h2:=this.2.1
 rw[iw]at h2
 unfold gS cG at h2
 simp only[Bool.and_eq_true]at h2
 exact all_eq_true.1 h2.1.1
theorem kz {u:U} (hn:u.ids.Nodup) {i q:Idd} (hi:i∈u.ids) {wh:Int} {k:Nat} (h:spot u i wh=some (q,k)):q∈u.ids:=by
 unfold spot at h
 split at h
 ·injection h with h;injection h with h1 h2;subst h1;exact hi
 ·split at h
  ·injection h with h;injection h with h1 h2;subst h1;exact hi
  ·obtain⟨⟨p,d,j⟩,e,e2⟩:=Option.map_eq_some_iff.1 h
   injection e2 with e3 e4
   subst e3
   exact(eW u hn hi e).mem
theorem ins_good {u:U} (h:Good u) {i:Idd} (hi:i∈u.ids) {d:Dd} (hm:d.it.may=true) (hk:d.it.kind=0):Good (insP u i d).1/\Root u (insP u i d).1:=by
 unfold insP
 split
 ·exact⟨h,Root.refl u⟩
 ·rename_i q k e
  have hq:=kz h.nd hi e
  obtain⟨s1,s2,s3,s4,s5⟩:=dW d.it.unit d.act d.item (fh hm hk)
  obtain⟨x,hx⟩:∃x,l6 d.it.unit d.act d.item=x:=⟨_,rfl⟩
  rw[hx]at s1 s2 s3 s4 s5 ⊢
  split
  ·exact⟨h,Root.refl u⟩
  ·rename_i ht
   split
   ·exact⟨h,Root.refl u⟩
   ·rename_i hf
    split
    ·exact⟨h,Root.refl u⟩
    ·rename_i hx2
     simp only[not_or,Int.not_le,Int.not_lt,Nat.not_le]at hf
     obtain⟨f1,f2,f3⟩:=hf
     have hno:∀y∈x.ids,y∉u.ids:=by
      intro y hy hyu
      exact hx2 (any_eq_true.2 ⟨y,hy,decide_eq_true hyu⟩)
     refine⟨or h hq s5 ?_ ?_ k ht f1 ?_ ?_,gP (g:=λl=>aR l k x)⟩
     ·rw[nodup_append]
      refine⟨h.nd,by rw[s1];exact idRow_nd _ _ _ _,?_⟩
      intro a ha b hb e2
      subst e2
      exact hno a hb ha
     ·rw[s1];exact oU _ _ _
     ·unfold U.dep at f2;omega
     ·unfold U.cnt at f3;omega
theorem mov_good {u:U} (h:Good u) {i t:Idd} (hi:i∈u.ids) (hne:u.id≠i) (ht:t∈u.ids) {d:Dd} (h0:0<=d.it.wh) (h3:d.it.wh<=3):Good (movP u i t d).1/\Root u (movP u i t d).1:=by
 obtain⟨g1,g2,g3,A,B,hA,e1,e2⟩:=ff h hi hne
 obtain⟨own,dO,j,w1,w2,hp⟩:=aW h.nd hi hne
 obtain⟨a,x,b,s,hx,hj,hl⟩:=hp.split
 have hfx:fnd i u=x:=aF hl
 have hxf:=aM u h.nd hi
 unfold movP
 split
 ·exact⟨h,Root.refl u⟩
 ·rename_i q k e
  split
  ·exact⟨h,Root.refl u⟩
  ·rename_i htk
   split
   ·exact⟨h,Root.refl u⟩
   ·rename_i hf
    rw[not_or]at hf
    obtain⟨f1,f2⟩:=hf
    have hq:q∈(dF i u).ids:=by
     have hqu:q∈u.ids/\q∉(fnd i u).ids:=by
      unfold fk at e
      rw[w1]at e
      simp only at e
      split at e
      ·cases e
      ·rename_i hc
       rw[not_or]at hc
       split at e
       ·injection e with e;injection e with e3 e4
        subst e3
        refine⟨hp.mem,?_⟩
        rw[hfx]
        have:=(U.nd_kids hp.nd).2
        rw[s.eq,U.idss_app,U.idss_cons]at this
        exact λhm=>this (mem_append.2 (.inr (mem_append.2 (.inl hm))))
       ·rename_i hti
        obtain⟨⟨q',k'⟩,e5,e6⟩:=Option.map_eq_some_iff.1 e
        injection e6 with e7 e8
        subst e7
        have hr:¬(besides d.it.wh=true/\t=u.id):=by
         rintro⟨r1,r2⟩
         have hh:d.it.wh=2\/d.it.wh=3:=by simpa[besides]using r1
         unfold spot at e5
         rw[cB r2.symm]at e5
         rcases hh with hh|hh<;>simp[hh]at e5
        obtain⟨P,dp,k2,hg⟩:=iP h.nd ht h0 h3 hr
        have:=hg.spot
        rw[e5]at this
        injection this with this
        injection this with e9 e10
        simp only at e9 ⊢
        rw[e9]
        refine⟨hg.mem,hg.out i hi λhm=>?_⟩
        exact hc.1 ((gI u h.nd ht hi).2 ⟨hti,hm⟩)
     rw[e2]
     have:=hqu.1
     rw[e1]at this
     rcases mem_append.1 this with hm|hm
     ·exact mem_append.2 (.inl hm)
     ·rcases mem_append.1 hm with hm|hm
      ·exact absurd hm hqu.2
      ·exact mem_append.2 (.inr hm)
    have hperm:((dF i u).ids++(fnd i u).ids).Perm u.ids:=by
     rw[e2,e1];exact(nT A _ B).symm
    refine⟨or g1 hq (λz hz=>h.node z (fe hxf z hz)) (hperm.nodup_iff.2 h.nd) ?_ k htk ?_ ?_ ?_,g2.trans (gP (g:=λl=>aR l k (fnd i u)))⟩
    ·intro hz
     by_cases hk0:u.kind=0
     ·have hr:=h.root.1 hk0
      have hn:=h.nd
      rw[e1]at hn
      obtain⟨A',hA'⟩:=ids_root e1 hA
      subst hA'
      rw[cons_append,nodup_cons]at hn
      exact hn.1 (by rw[hr];exact mem_append.2 (.inr (mem_append.2 (.inl hz))))
     ·exact h.zero hk0 (nB h.nd hi hz)
    ·by_cases hqo:q=own.id
     ·
      subst hqo
      have hW:dF i u=U.wth own.id (λy=>{y with kids:=aL y.kids j}) u:=by unfold dF;rw[w1]
      have hown:own∈u.flat:=by
       have:=aM u h.nd hp.mem
       rw[hp.fnd]at this;exact this
      have hox:own.id∉x.ids:=by
       have:=(U.nd_kids hp.nd).2
       rw[s.eq,U.idss_app,U.idss_cons]at this
       exact λhm=>this (mem_append.2 (.inr (mem_append.2 (.inl hm))))
      subst hj
      have hway:=jg (t:=own.id) h.nd hp s.eq hox
      have hf2:fnd own.id (dF i u)={own with kids:=a++b}:=by
       rw[hW]
       refine aF ?_
       rw[hway,getLast?_map,hp.last,Option.map_some,aZ rfl,s.eq,bG]
      rw[hf2]
      have:=cl (h.node own hown)
      rw[s.eq]at this
      simp at this ⊢
      omega
     ·rw[w2]at f1
      apply Classical.byContradiction
      intro hc
      exact f1 ⟨hqo,by omega⟩
    ·unfold U.dep at f2;omega
    ·have:=congrArg List.length e1
     have e3:=congrArg List.length e2
     rw[U.ids_len,length_append,length_append,U.ids_len]at this
     rw[U.ids_len,length_append]at e3
     have:=h.cnt
     omega
theorem m9 {u:U} (h:Good u) (d:Dd):Good (doP u d).1/\Root u (doP u d).1:=by
 have h0:Good u/\Root u u:=⟨h,Root.refl u⟩
 unfold doP
 split
 ·exact h0
 rename_i c1
 have hm:d.it.may=true:=by cases hh:d.it.may<;>simp_all
 split
 ·exact h0
 rename_i c2
 have hi:=bU (u:=u) (p:=d.it.at_) (by simpa using c2)
 obtain⟨i,hie⟩:∃i,(one u d.it.at_).1=i:=⟨_,rfl⟩
 rw[hie]at hi ⊢
 split
 ·rename_i k0
  exact ins_good h hi hm k0
 rename_i k0
 split
 ·split<;>exact h0
 rename_i hiu
 have hne:u.id≠i:=λe=>hiu e.symm
 have hk:=h.kind hi hne
 have hxf:=aM u h.nd hi
 have hnx:=h.node _ hxf
 split
 ·have:=ff h hi hne
  exact⟨this.1,this.2.1⟩
 split
 ·rename_i k2
  split
  ·exact h0
  ·rename_i he
   have hw:=editE_ok (a:=d.act) (b:=d.item) (kC hnx hk).2.2 (ns hm (by omega)) (by simpa using he)
   refine iD h hi hne (λ_=>rfl) (λ_=>rfl) (gV (f:=λy=>{y with words:=(hY (fnd i u).words d.it d.act d.item).1}) (λ_=>rfl) u h.nd hi h.node λz hz=>?_)
   rcases lw (y:=fnd i u) (z:={fnd i u with words:=(hY (fnd i u).words d.it d.act d.item).1}) rfl z hz with rfl|hz
   ·exact pe hnx hk hw
   ·exact h.node z (fe hxf z hz)
 split
 ·rename_i k4
  have hw:aS (dP d.act d.item d.it.new 0)=true:=by
   have:=ec (ns hm (.inr (.inr k4)))
   exact jp (ji this.1) (by rw[bq];omega)
  refine iD h hi hne (λ_=>rfl) (λ_=>rfl) (gV (f:=λy=>{y with head:=dP d.act d.item d.it.new 0}) (λ_=>rfl) u h.nd hi h.node λz hz=>?_)
  rcases lw (y:=fnd i u) (z:={fnd i u with head:=dP d.act d.item d.it.new 0}) rfl z hz with rfl|hz
  ·exact node_head hnx hk hw
  ·exact h.node z (fe hxf z hz)
 split
 ·rename_i k5
  split
  ·exact h0
  ·rename_i ht
   refine iD h hi hne (λ_=>rfl) (λ_=>rfl) (oc u h.nd hi hne h.node (o0 hm k5) (λp dd j e=>?_) hk)
   have hp:=eW u h.nd hi e
   obtain⟨a,k,b,s,hkk,hj,hl⟩:=hp.split
   have hpr:(parR i u).1=p:=by unfold parR;rw[eF u h.nd hi,e];rfl
   rw[hpr]at ht
   have hpf:p∈u.flat:=by
    have:=aM u h.nd hp.mem
    rw[hp.fnd]at this;exact this
   have hnest:=gh (h.node p hpf) k (by rw[s.eq];simp)
   have hfk:fnd i u=k:=aF hl
   rw[hfk]at ht ⊢
   cases htt:cK p.kids k.kind d.it.label with
   |false=>rfl
   |true=>exact absurd (by unfold bJ;simp only;rw[hnest,htt];simp) ht
 split
 ·exact h0
 rename_i c7
 have ht:=bU (u:=u) (p:=d.it.to_) (by simpa using c7)
 have hk6:d.it.kind=6:=by
  have:chg d.it.kind=true:=by cases hh:chg d.it.kind<;>simp_all
  simp only[chg,Bool.and_eq_true,decide_eq_true_eq]at this
  omega
 have hw:=eM hm (.inr hk6)
 exact mov_good h hi hne ht hw.1 hw.2
theorem nR {s:List UInt8} (h:bC s=true):s.length<=7:=by
 unfold bC at h
 simp only[Bool.and_eq_true,decide_eq_true_eq]at h
 omega
theorem Zx {l:List Wd} (h:aS l=true):l.length<=256/\∀w∈l,w.text.length<=24:=by
 unfold aS at h
 simp only[Bool.and_eq_true,decide_eq_true_eq]at h
 refine⟨by omega,λw hw=>?_⟩
 have:=all_eq_true.1 h.2 w hw
 unfold wdOk bQ at this
 simp only[Bool.and_eq_true,decide_eq_true_eq]at this
 omega
structure Slim (y:U):Prop where
 label:y.label.length<=7
 head:y.head.length<=256/\∀w∈y.head,w.text.length<=24
 words:y.words.length<=256/\∀w∈y.words,w.text.length<=24
 kids:y.kids.length<=64
theorem dk {y:U} (h:nodeOk y=true):Slim y:=by
 have hk:=cl h
 by_cases h0:y.kind=0
 ·unfold nodeOk own1 at h
  rw[if_pos h0]at h
  simp only[Bool.and_eq_true,decide_eq_true_eq]at h
  obtain⟨⟨h1,h2,h3⟩,_⟩:=h
  have e2:y.head=[]:=eq_nil_of_length_eq_zero (by omega)
  have e3:y.words=[]:=eq_nil_of_length_eq_zero (by omega)
  exact⟨by rw[h1];simp,by rw[e2];simp,by rw[e3];simp,hk⟩
 ·obtain⟨h1,h2,h3⟩:=kC h h0
  exact⟨nR h1,Zx h2,Zx h3,hk⟩
theorem slim_fit:∀u:U,(∀y∈u.flat,Slim y)->u.fit:=by
 refine U.ind λu ih h=>?_
 have hu:=h u u.flat_self
 refine(U.fit_eq u).2 ⟨by have:=hu.label;omega,⟨by have:=hu.head.1;omega,λx hx=>by have:=hu.head.2 x hx;omega⟩,⟨by have:=hu.words.1;omega,λx hx=>by have:=hu.words.2 x hx;omega⟩,by have:=hu.kids;omega,λk hk=>?_⟩
 exact ih k hk λy hy=>h y (U.flat_kid hk hy)
theorem cf {u:U} (h:∀y∈u.flat,nodeOk y=true) (hc:u.flat.length<1000000):u.Short:=by
 refine⟨⟨slim_fit u λy hy=>dk (h y hy),hc⟩,λx hx=>?_⟩
 have s:=dk (h x hx)
 exact⟨by have:=s.label;omega,by have:=s.head.1;omega,by have:=s.words.1;omega,λw hw=>by have:=s.head.2 w hw;omega,λw hw=>by have:=s.words.2 w hw;omega⟩
theorem Good.short {u:U} (h:Good u):u.Short:=cf h.node (by have:=h.cnt;omega)
end Go.Av
namespace Go.Av
open Go Go.RowKit List
set_option linter.unusedSimpArgs false
set_option linter.unusedVariables false
section
variable {G:Glob} {P:Program} {σ ρ:Store} {w:World} {env:Env} {K:AV->Store->Prop}
theorem cg {t tx e e':TypeId} {sz bytes:Nat} {x y:Operand} {rows ys:List (List AV)} {g:Option Nat} {xv:AV}
  (hu:P.underlying t=some (.slice e)) (hk:P.underlying tx=some (.slice e')) (hi:(P.info? e).map (λi=>(i.size,i.bytes))=some (sz,bytes)) (hz:(cX P e).map List.length=some sz) (hpos:sz≠0) (hb0:bytes≠0)
  (hxv:(SOpd.of x).eval G env=xv) (hW:WS σ e sz xv rows g) (hys:srcX sz ((SOpd.of y).eval G env) λl=>l=ys) (hbytes:(rows.length+ys.length)*bytes<=140737488355328)
  (hk0:rows=[]->ys=[]->K xv σ)
  (hk1:∀b cap pad,b∉(σ.erase g).keys->(rows++ys).length<=cap->cap<=maxLen->(∀r∈rows++ys,r.length=sz)->((rows++ys).flatten++pad).length=cap*sz->
   K (.sc (.slice (some ⟨b,0,none⟩) (rows++ys).length cap)) ((b,.cells e ((rows++ys).flatten++pad))::σ.erase g)):RAW G P (.call (.mk (.builtin .append) #[x,y] #[t,tx])) env σ K ⟨⟩:=by
 obtain⟨i,hi',he⟩:=Option.map_eq_some_iff.1 hi
 obtain⟨z,hz',hzl⟩:=Option.map_eq_some_iff.1 hz
 simp only[Prod.mk.injEq]at he
 obtain⟨rfl,rfl⟩:=he
 exact oe (ty:=0) hu hk hi' hz' hzl hpos hb0 hxv hW hys hbytes hk0 hk1
end
end Go.Av
namespace Go.Av
open Go Go.RowKit Go.Proofs List
set_option linter.unusedSimpArgs false
set_option linter.unusedVariables false
theorem iX (l:List Wd):∀r∈l.map Wd.cs,r.length=4:=by
 intro r hr
 obtain⟨w,_,rfl⟩:=mem_map.1 hr
 rfl
theorem jr (l:List U):∀r∈l.map U.cs,r.length=8:=by
 intro r hr
 obtain⟨w,_,rfl⟩:=mem_map.1 hr
 exact U.cs_len w
theorem eJ {e:TypeId} {sz:Nat} {v:Value} (h:la v):bR e sz [] (.sc v) []:=by
 rcases h with rfl|⟨a,rfl⟩
 ·exact⟨none,0,rfl,.inl ⟨rfl,rfl,rfl⟩⟩
 ·exact⟨some a,0,rfl,.inl ⟨rfl,rfl,rfl⟩⟩
theorem RET.le {x y:AV} {R:AV->Store->Prop} {σ σ':Store} (hl:AVle x y) (hs:SubN σ' σ) (h:R y σ'):RET x σ R:=⟨y,σ',hl,hs,h⟩
theorem RET.mk' {x:AV} {R:AV->Store->Prop} {σ σ':Store} (hs:SubN σ' σ) (h:R x σ'):RET x σ R:=⟨x,σ',AVle.rfl' _,hs,h⟩
section
variable (G:Glob)
theorem f155 (l:List Wd) (hl:l.length<1000000):aj G Tryz.prog 155 [.lst 4 (l.map Wd.cs)] [] (λr σ=>bR 120 4 (l.map Wd.cs) r σ):=by
 obtain⟨rows,hrows⟩:∃rows,l.map Wd.cs=rows:=⟨_,rfl⟩
 have hlen:rows.length=l.length:=by rw[←hrows,length_map]
 have hsz:∀r∈rows,r.length=4:=by rw[←hrows];exact iX l
 rw[hrows]
 refine aj.w c155 ?_
 unfold s155 r155
 simp only[EV1,EV2,EV3,EV4,EV5,Option.map_some,decide_true,decide_false,seval,↓reduceIte,eq_self]
 intro bb hbb
 refine ae (λh=>?_) (λh=>?_)
 ·simp only[EV1,EV2,EV3,EV4,EV5,Option.map_some,decide_true,decide_false,seval,↓reduceIte,eq_self]
  have h0:rows=[]:=by
   rcases Classical.em (rows=[])with h1|h1
   ·exact h1
   ·rw[hbb h1]at h;cases h
  subst h0
  exact RET.le (y:=.sc (.slice none 0 0)) (Or.inl (Or.inr rfl)) (SubN.refl _) (eJ (.inl rfl))
 ·simp only[EV1,EV2,EV3,EV4,EV5,Option.map_some,decide_true,decide_false,seval,↓reduceIte,eq_self]
  refine gC (e:=120) (n:=4) (by kernel_rfl) (by kernel_rfl) (λv hv=>?_)
  simp only[EV1,EV2,EV3,EV4,EV5,Option.map_some,decide_true,decide_false,seval,↓reduceIte,eq_self]
  refine cg (e:=120) (e':=120) (sz:=4) (bytes:=40) (rows:=[]) (ys:=rows) (g:=none) (xv:=.sc v) (by kernel_rfl) (by kernel_rfl) (by kernel_rfl) (by kernel_rfl) (by decide) (by decide) rfl (.inl ⟨rfl,rfl,.inr ⟨v,rfl,hv⟩⟩) ?_ ?_ ?_ ?_
  ·exact⟨rfl,rfl⟩
  ·simp;omega
  ·intro _ h0
   simp only[EV1,EV2,EV3,EV4,EV5,Option.map_some,decide_true,decide_false,seval,↓reduceIte,eq_self]
   subst h0
   exact RET.mk' (SubN.refl _) (eJ hv)
  ·intro b cap pad hb hle hcm hr2 hln
   simp only[EV1,EV2,EV3,EV4,EV5,Option.map_some,decide_true,decide_false,seval,↓reduceIte,eq_self]
   simp only[nil_append]at*
   exact RET.mk' (SubN.refl _) ⟨_,_,rfl,.inr ⟨b,pad,rfl,rfl,hle,hcm,hr2,hln⟩⟩
end
end Go.Av
