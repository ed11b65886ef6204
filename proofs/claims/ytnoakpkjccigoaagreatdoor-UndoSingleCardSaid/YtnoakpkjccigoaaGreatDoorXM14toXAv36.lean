/-
  ENACT, M14: editable books, as the document says it.
-/
import Derived.Test.YtnoakpkjccigoaaGreatDoorXM18toXM13
import Derived.Test.YtnoakpkjccigoaaGreatDoorXM15toXM17
import Derived.Test.YtnoakpkjccigoaaGreatDoorXM4toXE16
import Derived.Test.YtnoakpkjccigoaaGreatDoorXAv34toXAv35
namespace Go.Av
open Go Go.RowKit Go.Proofs List
set_option linter.unusedSimpArgs false
set_option linter.unusedVariables false
section
mutual
def U.named:U->Bool
 |⟨d,k,l,h,w,ks⟩=>(decide (k=0)|| !decide (d=zId))&&U.nameds ks
def U.nameds:List U->Bool
 |[]=>true
 |u::us=>U.named u&&U.nameds us
end
theorem U.named_eq (u:U):u.named=((decide (u.kind=0)|| !decide (u.id=zId))&&U.nameds u.kids):=by cases u;rw[U.named]
theorem U.nameds_nil:U.nameds []=true:=by rw[U.nameds]
theorem U.nameds_cons (u:U) (us:List U):U.nameds (u::us)=(u.named&&U.nameds us):=by rw[U.nameds]
theorem oD:∀u:U,u.named=true->∀y∈u.flat,y.kind=0\/y.id≠zId:=by
 refine U.ind λu ih h y hy=>?_
 rw[U.named_eq,Bool.and_eq_true]at h
 rw[U.flat_eq]at hy
 rcases mem_cons.1 hy with rfl|hy
 ·have:=h.1
  simp only[Bool.or_eq_true,decide_eq_true_eq,Bool.not_eq_true',decide_eq_false_iff_not]at this
  exact this
 ·obtain⟨k,hk,hy⟩:=bN hy
  have:∀us:List U,U.nameds us=true->∀k∈us,k.named=true:=by
   intro us
   induction us with
   |nil=>intro _ k hk;cases hk
   |cons x us ihu=>
    intro h k hk
    rw[U.nameds_cons,Bool.and_eq_true]at h
    rcases mem_cons.1 hk with rfl|hk
    ·exact h.1
    ·exact ihu h.2 k hk
  exact ih k hk (this u.kids h.2 k hk) y hy
def ig (u:U):Bool:=decide (u.kind=0)&&(treeOk u&&u.named)
theorem nW {u:U} (h:ig u=true):Good u:=by
 unfold ig at h
 rw[kG]at h
 unfold treeOk2 at h
 simp only[Bool.and_eq_true,decide_eq_true_eq]at h
 obtain⟨h0,⟨hn,hd,hc,hi⟩,hnm⟩:=h
 have hnode:=all_eq_true.1 hn
 have hnmf:=oD u hnm
 have hids:u.ids.Nodup/\u.id=zId:=by
  unfold idsOk at hi
  rcases Bool.or_eq_true_iff.1 hi with hz|hz
  ·have hall:=all_eq_true.1 hz
   have hk:u.kids=[]:=by
    cases hks:u.kids with
    |nil=>rfl
    |cons k ks=>
     exfalso
     have hkm:k∈u.kids:=by rw[hks];simp
     have hkf:k∈u.flat:=U.flat_kid hkm k.flat_self
     have h1:=jd (df (hnode u u.flat_self) k hkm)
     have h2:k.id=zId:=by simpa using hall k.id (mem_map.2 ⟨k,hkf,rfl⟩)
     rcases hnmf k hkf with h3|h3
     ·exact h1 h3
     ·exact h3 h2
   have e:u.ids=[u.id]:=by rw[U.ids_eq,hk,U.idss_nil]
   refine⟨by rw[e];simp,?_⟩
   simpa using hall u.id (cR u)
  ·rw[Bool.and_eq_true,decide_eq_true_eq,decide_eq_true_eq]at hz
   refine⟨hz.2,?_⟩
   have:=hz.1
   rw[decide_eq_true h0]at this
   simpa using this
 refine⟨hids.1,hnode,by unfold U.dep at hd;omega,by unfold U.cnt at hc;omega,⟨λ_=>hids.2,λ_=>h0⟩,λh=>absurd h0 h⟩
section
variable (G:Glob)
theorem f108:∀(u:U),u.Tame->Pure G Tryz.prog 108 [.agg u.cs] (.bool u.named):=by
 refine U.ind λu ih ht=>?_
 have hkl:=ht.kids
 refine Pure.w c108 λR hR=>?_
 unfold s108 r108
 rw[U.named_eq]at hR
 (repeat' (first|(with_reducible (first|refine ab (λh=>?_) (λh=>?_)|refine ai (λh=>?_) (λh=>?_))<;>(try simp only[Da,Db,Dc,Dw,De,Df,Dg,Dh]at h))|(with_reducible refine aa (ih x hx.mem (ht.kid hx.mem)) ?_)|simp only[EVz,seval,↓reduceIte,EV6,EV7,idd_zero,hx.yes,hx.le0,hx.lt',hx.get,hx.row,hw]|simp only[EVz,seval,↓reduceIte,EV6,EV7,idd_zero,hn]|simp only[EVz,seval,↓reduceIte,EV6,EV7,idd_zero]|(refine ap hx () ?_ (Weak.rfl' _ _))|(refine ay (u.kids) (λi r (c:Unit)=>U.nameds u.kids=U.nameds r) (λi c=>[(1,.ref u.cs),(3,.int .i64 i)]) (λ_ _=>[]) () (by rfl) (Weak.rfl' _ _) (by omega) (λi x r c hok hx hw=>?_) (λc hok hn=>?_))|fail))
 (all_goals(first|(refine RET.eq hR ?_;first|(simp only[U.nameds_nil,U.nameds_cons,hok,h,EVC,decide_true,decide_false];done)|(simp_all[U.nameds_nil,U.nameds_cons];done))|(rw[hok];simp only[U.nameds_nil,U.nameds_cons,h,EVC,decide_true,decide_false];done)))
theorem f54 (u:U) (hs:u.Short):Pure G Tryz.prog 54 [.agg u.cs] (.bool (treeOk u&&u.named)):=by
 have h1:=f107 G u hs
 have h2:=f108 G u hs.1
 refine Pure.w c54 λR hR=>?_
 unfold s54 r54
 generalize treeOk u=q1 at*
 generalize u.named=q2 at*
 (repeat' (first|(with_reducible (refine ai (λh=>?_) (λh=>?_))<;>(try simp only[Da,Db,Dc,Dw,De,Df,Dg,Dh]at h))|(with_reducible first|refine aa h1 ?_|refine aa h2 ?_)|simp only[EVz,seval,↓reduceIte,EV6,EV7]|fail))
 (all_goals(((refine RET.eq hR ?_;((simp_all[];done))))))
theorem f33 (u:U) (hs:u.Short):Pure G Tryz.prog 33 [.agg u.cs] (.bool (ig u)):=by
 have h1:=f54 G u hs
 refine Pure.w c33 λR hR=>?_
 unfold s33 r33
 unfold ig at hR
 generalize (treeOk u&&u.named)=q1 at*
 (repeat' (first|(with_reducible (refine ai (λh=>?_) (λh=>?_))<;>(try simp only[Da,Db,Dc,Dw,De,Df,Dg,Dh]at h))|(with_reducible refine aa h1 ?_)|simp only[EVz,seval,↓reduceIte,EV6,EV7]|fail))
 (all_goals(first|(refine RET.eq hR ?_;(refine congrArg AV.bool (Bool.eq_iff_iff.2 ?_);simp only[EVB]at*;omega))|(refine RET.eq hR ?_;((simp_all[];done)))))
end
end
section
variable (G:Glob)
set_option maxHeartbeats 2000000 in
theorem f235 (bs:Nat) (a b:Int):∀(u:U),u.Short->∀n m:Int,0<=n->0<=m->n+1+u.flat.length<=100000000000->m+u.wt<=100000000000->
  ag G Tryz.prog 235 [.sc (.pointer (some ⟨bs,0,none⟩)),.agg u.cs] [(bs,.cells 216 (stp4 a b n m))] λr σ'=>r= .agg (U.stamp a b u (n+1) m).1.cs/\
   σ'=[(bs,.cells 216 (stp4 a b ((U.stamp a b u (n+1) m).2.1-1) (U.stamp a b u (n+1) m).2.2))]:=by
 refine U.ind λu ih hs n m hn0 hm0 hnb hmb=>?_
 have hkl:=hs.1.kids
 have hu:=hs.2 u u.flat_self
 rw[U.flat_eq,length_cons]at hnb
 rw[U.wt_eq]at hmb
 have hR1:=f274 G bs u.head a b (n+1) m hu.2.1 hm0 (by omega)
 have hR2:=f274 G bs u.words a b (n+1) (m+u.head.length) hu.2.2.1 (by omega) (by omega)
 have w1:IntKind.i64.wrap (n+1)=n+1:=aA (by omega) (by omega)
 obtain⟨w,hw⟩:∃w,U.stamp a b u (n+1) m=w:=⟨_,rfl⟩
 rw[hw]
 refine ag.freezeK (R1:=λσ'=>σ'=[(bs,.cells 216 (stp4 a b (w.2.1-1) w.2.2))]) ?_
 refine ag.w c235 ?_
 unfold s235 r235
 rw[U.stamp_eq]at hw
 have hfit:0+u.kids.length*8<=(List.replicate u.kids.length zU).flatten.length:=by rw[cb];simp[zU]
 have hfl:(u.kids.map U.cs).flatten.length=u.kids.length*8:=by rw[au _ (dZ _),length_map]
 have hspl:aH (List.replicate u.kids.length zU).flatten 0 ((u.kids.map U.cs).take u.kids.length).flatten=(u.kids.map U.cs).flatten:=by
  rw[take_of_length_le (by simp),aY _ _ _ (by rw[hfl];exact hfit),drop_eq_nil_of_le (by rw[hfl,cb];simp[zU])]
  simp
 obtain⟨n1,hn1⟩:∃n1,n+1+1=n1:=⟨_,rfl⟩
 obtain⟨m1,hm1⟩:∃m1,m+(u.head.length:Int)+(u.words.length:Int)=m1:=⟨_,rfl⟩
 rw[hn1,hm1]at hw
 obtain⟨S,hS⟩:∃S:Nat->List U×Int×Int,S=λi=>U.stamps a b (u.kids.take i) n1 m1:=⟨_,rfl⟩
 have hSn:∀i,(S i).2.1=n1+(U.flats (u.kids.take i)).length/\(S i).2.2=m1+U.wts (u.kids.take i)/\(S i).1.length=(u.kids.take i).length:=λi=>by rw[hS];exact jo a b _ n1 m1
 obtain⟨L,hL⟩:∃L:Nat->List (List AV),L=λi=>((S i).1++u.kids.drop i).map U.cs:=⟨_,rfl⟩
 have hS0:S 0=([],n1,m1):=by rw[hS];simp only[take_zero,U.stamps_nil]
 have hL0:(L 0).flatten=(u.kids.map U.cs).flatten:=by rw[hL];simp only[hS0,nil_append,drop_zero]
 have hst0:stp4 a b ((S 0).2.1-1) (S 0).2.2=stp4 a b (n+1) (m+(u.head.length:Int)+(u.words.length:Int)):=by
  rw[hS0]
  show stp4 a b (n1-1) m1=_
  rw[hm1,←hn1]
  congr 1
  omega
 have hLr:∀i,∀r∈L i,r.length=8:=λi=>by rw[hL];exact dZ _
 have hLl:∀i,i<=u.kids.length->(L i).length=u.kids.length:=λi hi=>by
  rw[hL]
  simp only[length_map,length_append,length_drop,(hSn i).2.2,length_take]
  omega
 have hLf:∀i,i<=u.kids.length->(L i).flatten.length=u.kids.length*8:=λi hi=>by rw[au _ (hLr i),hLl i hi]
 rw[U.cs_eq u]
 (repeat' (first|simp only[EVz,seval,↓reduceIte,EV6,EV7,w1,hne]|simp only[EVz,seval,↓reduceIte,EV6,EV7,w1]|(with_reducible intro blk hblk;(try(have hnx:=hblk;simp only[EVK]at hnx;first|(have hne:=AI hnx hne)|(have hne:=hnx))))|(with_reducible refine ae ?_ ?_)|(with_reducible refine af ?_)|(refine av [(bs,_)] [(_,_),(_,_)] hR1.v (ax.rfl' _) (SubN.perm (perm_append_comm (l₁:=[_]) (l₂:=[_,_]))) (λr1 σ1 h1 hne=>?_))|(obtain⟨rfl,rfl⟩:=h1)|(simp[Store.keys]at hne)|(refine av [(bs,_)] [(_,_),(_,_)] hR2.v (ax.rfl' _) (SubN.refl _) (λr2 σ2 h1 hne=>?_))|(refine iA (elem:=27) (c:=u.kids.length) (sz:=8) (bytes:=120) (zr:=zU) (z:=.agg #[.int .i64 0,.int .i64 0,.int .i64 0,.int .i64 0,.string .empty,.slice none 0 0,.slice none 0 0,.slice none 0 0]) rfl (by kernel_rfl) (by kernel_rfl) rfl (by omega) (by decide) (by intro τ w;simp[zU,RepL,Rep,Value.cells];rfl) (by omega) (by omega) ?_)|(refine lM (elem:=27) (sz:=8) (ys:=u.kids.map U.cs) u.kids.length (u.kids.map U.cs).flatten (by kernel_rfl) (by kernel_rfl) rfl (if_pos rfl) (.inl ⟨rfl,rfl⟩) (by simp) hfit hspl ?_)|fail))
 all_goals
  rename_i b3 _ _ _ b4 _ _ _ _ _
  have q1:¬bs=blk:=λe=>hne.1.1 e.symm
  have q2:¬b4=blk:=λe=>hne.1.2.1 e.symm
  have q3:¬b3=blk:=λe=>hne.1.2.2 e.symm
  refine ay u.kids (λi r (c:Unit)=>True) (λi c=>[(0,.sc (.pointer (some ⟨bs,0,none⟩))),(3,.sc (.pointer (some ⟨b3,0,none⟩))),(4,.sc (.pointer (some ⟨b4,0,none⟩))),(5,.sc (.slice (some ⟨blk,0,none⟩) u.kids.length u.kids.length)),(47,.int .i64 u.kids.length),(48,.int .i64 i)])
   (λi c=>[(blk,.cells 27 (L i).flatten),(bs,.cells 216 (stp4 a b ((S i).2.1-1) (S i).2.2)),(b4,.cells 27 zU),(b3,.cells 27 [.int .i64 a,.int .i64 b,.int .i64 (n+1),.int .i64 u.kind,.str u.label,.lst 4 ((aX a b (u.head.map Wd.text) m).map Wd.cs),.lst 4 ((aX a b (u.words.map Wd.text) (m+u.head.length)).map Wd.cs),.lst 8 (u.kids.map U.cs)])]) () trivial (by rw[hL0,hst0];exact Weak.rfl' _ _) (by omega) (λi k r c _ hx hw=>?_) (λc _ hn=>?_)
  ·obtain⟨s1,s2,s3⟩:=hSn i
   obtain⟨t1,t2,t3⟩:=hSn (i+1)
   have hil:=hx.lt
   have hfl:(U.flats (u.kids.take (i+1))).length<=(U.flats u.kids).length:=by
    conv=>rhs;rw[←take_append_drop (i+1) u.kids,cJ,length_append]
    omega
   have hwl:U.wts (u.kids.take (i+1))<=U.wts u.kids:=by
    conv=>rhs;rw[←take_append_drop (i+1) u.kids,U.wts_app]
    omega
   have hfl2:(U.flats (u.kids.take (i+1))).length=(U.flats (u.kids.take i)).length+k.flat.length:=by rw[hx.take,cJ,flats_cons,flats_nil];simp
   have hwl2:U.wts (u.kids.take (i+1))=U.wts (u.kids.take i)+k.wt:=by rw[hx.take,U.wts_app,U.wts_cons,U.wts_nil];simp
   have hih:=ih k hx.mem (hs.kid hx.mem) ((S i).2.1-1) (S i).2.2 (by omega) (by omega) (by omega) (by omega)
   rw[show(S i).2.1-1+1=(S i).2.1 by omega]at hih
   have hSs:S (i+1)=((S i).1++[(U.stamp a b k (S i).2.1 (S i).2.2).1],(U.stamp a b k (S i).2.1 (S i).2.2).2):=by
    simp only[hS]
    rw[hx.take,lc]
   have hgk:(L i)[i]? =some k.cs:=by
    rw[hL]
    simp only[getElem?_map]
    rw[getElem?_append_right (by rw[s3,length_take];omega),s3,length_take,Nat.min_eq_left (by omega),Nat.sub_self,getElem?_drop,Nat.add_zero,getElem?_eq_getElem hil,←hx.get k]
    simp[hil]
   have hgt:((L i).flatten.drop (0+i*8)).take 8=k.cs:=by simpa using jI (pad:=[]) (hLr i) hgk
   have hle8:8<=((L i).flatten.drop (0+i*8)).length:=by rw[length_drop,hLf i (by omega)];omega
   have hLs:L (i+1)=(L i).set i (U.stamp a b k (S i).2.1 (S i).2.2).1.cs:=by
    have h3:u.kids.drop i=k::u.kids.drop (i+1):=by
     rw[drop_eq_getElem_cons hil]
     congr 1
     simpa[hil]using hx.get k
    have htl:(S i).1.length=i:=by rw[s3,length_take];omega
    rw[hL]
    simp only[hSs]
    rw[h3]
    simp only[map_append,map_cons,map_nil]
    rw[set_append_right _ _ (by simp[htl])]
    simp[htl]
   have hset:aH (L i).flatten (0+i*8) (U.stamp a b k (S i).2.1 (S i).2.2).1.cs=(L (i+1)).flatten:=by
    rw[hLs]
    rw[Nat.zero_add]
    simpa using iK (pad:=[]) (hLr i) (by rw[hLl i (by omega)];omega) (U.cs_len _)
   have hlf:=hLf i (by omega)
   (repeat' (first|(with_reducible refine AI (by omega) ?_)|simp only[EVz,seval,↓reduceIte,EV6,EV7,hx.yes,hx.le0,hx.lt',hx.get,hw,hgt,q1,q2,q3,hset,hne]|(refine av [(bs,_)] [(blk,_),(b4,_),(b3,_)] hih.v (ax.rfl' _) (SubN.perm (List.Perm.swap _ _ _)) (λr1 σ1 h1 hne2=>?_))|(obtain⟨rfl,rfl⟩:=h1)|fail))
   all_goals
    refine ap hx () trivial ?_
    rw[hSs]
    exact Weak.sub (SubN.perm (List.Perm.swap _ _ _))
  ·have hnS:S u.kids.length=U.stamps a b u.kids n1 m1:=by simp only[hS];rw[take_length]
   have hLn:L u.kids.length=(U.stamps a b u.kids n1 m1).1.map U.cs:=by rw[hL];simp only[hnS,drop_length,append_nil]
   have hkn:(U.stamps a b u.kids n1 m1).1.length=u.kids.length:=(jo a b u.kids n1 m1).2.2
   have p1:¬blk=b4:=hne.1.2.1
   have p2:¬blk=b3:=hne.1.2.2
   have p3:¬bs=b4:=hne.2.1.1
   have p4:¬bs=b3:=hne.2.1.2
   have p5:¬b4=b3:=hne.2.2
   (repeat' (simp only[EVz,seval,↓reduceIte,EV6,EV7,hn,q1,q2,q3,p1,p2,p3,p4,p5,hne]))
   refine RET.mk' (σ':=[(blk,.cells 27 (L u.kids.length).flatten)]++[(bs,.cells 216 (stp4 a b ((S u.kids.length).2.1-1) (S u.kids.length).2.2))]) (SubN.left (σ:=[_,_]) (τ:=[_,_])) ⟨_,_,_,rfl,?_,rfl,?_⟩
   ·rw[←hw,U.cs_eq]
    exact⟨.inl rfl,.inl rfl,.inl rfl,.inl rfl,.inl rfl,.inl rfl,.inl rfl,.inr ⟨27,8,L u.kids.length,_,bD.mk0 (hLl _ (Nat.le_refl _)).symm (by rw[hLl _ (Nat.le_refl _)];unfold maxLen;omega) (hLr _),λq hq=>hq,by rw[hLn]⟩,trivial⟩
   ·rw[hnS,←hw]
theorem f145 (u:U) (a b:Int) (hs:u.Short) (hw:u.wt<=90000000000):Pure G Tryz.prog 145 [.agg u.cs,.int .i64 a,.int .i64 b] (.agg (cz u a b).cs):=by
 have hc:=hs.1.2
 refine Pure.w c145 λR hR=>?_
 unfold s145 r145
 (repeat' (first|simp only[EVz,seval,↓reduceIte,EV6,EV7,hne]|simp only[EVz,seval,↓reduceIte,EV6,EV7]|(with_reducible intro blk hblk;(try(have hnx:=hblk;simp only[EVK]at hnx;first|(have hne:=AI hnx hne)|(have hne:=hnx))))|(refine av [(_,_)] [(_,_)] (f235 G _ a b u hs 0 0 (by omega) (by omega) (by omega) (by omega)).v (ax.rfl' _) (SubN.refl _) (λr1 σ1 h1 hne=>?_))|(obtain⟨rfl,rfl⟩:=h1)|(simp[Store.keys]at hne)|fail))
 exact RET.eq hR rfl
end
section
variable (G:Glob)
theorem f240k (σ:Store) (f:Value) (p:Idd->Bool) (l:List Idd) (hl:l.length<9000000000000000000) (hf:∀x∈l,cd G Tryz.prog f [.agg x.cs] σ λr σ'=>r= .bool (p x)/\σ'=σ):
  ag G Tryz.prog 240 [.lst 3 (l.map Idd.cs),.sc f] σ λr σ'=>r= .int .i64 (idxF p 0 l)/\σ'=σ:=by
 refine ag.wk c240 λR hR=>?_
 unfold s240 r240
 simp only[Idd.cs]at hf
 (repeat' (first|(with_reducible (refine ab (λh=>?_) (λh=>?_))<;>(try simp only[Da,Db,Dc,Dw,De,Df,Dg,Dh]at h))|simp only[EVz,seval,↓reduceIte,EV6,EV7,hx.yes,hx.le0,hx.lt',hx.get,hx.row,hw]|simp only[EVz,seval,↓reduceIte,EV6,EV7,hn]|simp only[EVz,seval,↓reduceIte,EV6,EV7]|(refine ap hx () ?_ (Weak.rfl' _ _))|(refine ay l (λi r (c:Unit)=>idxF p 0 l=idxF p i r) (λi c=>[(0,.lst 3 (l.map Idd.cs)),(1,.sc f),(7,.int .i64 l.length),(8,.int .i64 i)]) (λ_ _=>σ) () rfl (Weak.rfl' _ _) (by omega) (λi x r c hok hx hw=>?_) (λc hok hn=>?_))|(refine ec (hf _ hx.mem) ?_)|fail))
 ·refine hR _ _ (.inl (.inl ?_)) (SubN.refl _)
  rw[hok,idxF,if_pos h]
 ·rw[hok,idxF,h];rfl
 ·refine hR _ _ (.inl (.inl ?_)) (SubN.refl _)
  rw[hok];rfl
theorem f150k (σ:Store) (f:Value) (p:Idd->Bool) (l:List Idd) (hl:l.length<9000000000000000000) (hf:∀x∈l,cd G Tryz.prog f [.agg x.cs] σ λr σ'=>r= .bool (p x)/\σ'=σ):
  ag G Tryz.prog 150 [.lst 3 (l.map Idd.cs),.sc f] σ λr σ'=>r= .bool (l.any p)/\σ'=σ:=by
 refine ag.wk c150 λR hR=>?_
 unfold s150 r150
 have hI:=f240k G σ f p l hl hf
 (repeat' (first|simp only[EVz,seval,↓reduceIte,EV6,EV7]|(refine ec hI.v ?_)|fail))
 exact hR _ _ (.inl (.inl (congrArg AV.bool (d7 p l 0)))) (SubN.refl _)
theorem f241 (l:List Idd) (k:Idd) (hl:l.length<9000000000000000000):Pure G Tryz.prog 241 [.lst 3 (l.map Idd.cs),.agg k.cs] (.int .i64 (idxF (λx=>decide (k=x)) 0 l)):=by
 refine Pure.w c241 λR hR=>?_
 unfold s241 r241
 (repeat' (first|(with_reducible (refine ab (λh=>?_) (λh=>?_))<;>(try simp only[Da,Db,Dc,Dw,De,Df,Dg,Dh]at h))|simp only[EVz,seval,↓reduceIte,EV6,EV7,idd_eq,hx.yes,hx.le0,hx.lt',hx.get,hx.row,hw]|simp only[EVz,seval,↓reduceIte,EV6,EV7,idd_eq,hn]|simp only[EVz,seval,↓reduceIte,EV6,EV7,idd_eq]|(refine ap hx () ?_ (Weak.rfl' _ _))|(refine ay (l) (λi r (c:Unit)=>idxF (λx=>decide (k=x)) 0 l=idxF (λx=>decide (k=x)) i r) (λi c=>[(0,.lst 3 (l.map Idd.cs)),(3,.ref k.cs),(7,.int .i64 l.length),(8,.int .i64 i)]) (λ_ _=>[]) () (by rfl) (Weak.rfl' _ _) (by omega) (λi x r c hok hx hw=>?_) (λc hok hn=>?_))|fail))
 ·refine RET.eq hR ?_
  rw[hok,idxF,if_pos (decide_eq_true h)]
 ·rw[hok,idxF,if_neg (by simpa using h)]
 ·refine RET.eq hR ?_
  rw[hok];rfl
theorem f152 (l:List Idd) (k:Idd) (hl:l.length<9000000000000000000):Pure G Tryz.prog 152 [.lst 3 (l.map Idd.cs),.agg k.cs] (.bool (decide (k∈l))):=by
 have hI:=f241 G l k hl
 simp only[Idd.cs]at hI
 refine Pure.w c152 λR hR=>?_
 unfold s152 r152
 (repeat' (first|(with_reducible refine aa hI ?_)|simp only[EVz,seval,↓reduceIte,EV6,EV7]|fail))
 refine RET.eq hR (congrArg AV.bool ?_)
 rw[d7,Bool.eq_iff_iff,any_eq_true,decide_eq_true_eq]
 constructor
 ·rintro⟨x,hx,hd⟩;rw[of_decide_eq_true hd];exact hx
 ·intro h;exact⟨k,h,decide_eq_true rfl⟩
theorem f151 (b:Nat) (l:List Idd) (k:Idd) (hl:l.length<9000000000000000000):ag G Tryz.prog 151 [.agg k.cs,.sc (.pointer (some ⟨b,0,none⟩))] [(b,.cells 115 [.lst 3 (l.map Idd.cs)])] λr σ'=>r= .bool (decide (k∈l))/\σ'=[(b,.cells 115 [.lst 3 (l.map Idd.cs)])]:=by
 have hC:=f152 G l k hl
 simp only[Idd.cs]at hC
 refine ag.wk c151 λR hR=>?_
 unfold s151 r151
 (repeat' (first|(with_reducible refine aa hC ?_)|simp only[EVz,seval,↓reduceIte,EV6,EV7]|fail))
 exact hR _ _ (AVle.rfl' _) (SubN.refl _)
theorem f236 (b:Nat) (x k:U):ag G Tryz.prog 236 [.agg k.cs,.sc (.pointer (some ⟨b,0,none⟩))] [(b,.cells 27 x.cs)] λr σ'=>r= .bool (decide (k.kind=x.kind)&&decide (k.label=x.label))/\σ'=[(b,.cells 27 x.cs)]:=by
 refine ag.wk c236 λR hR=>?_
 unfold s236 r236
 rw[U.cs_eq x]at hR ⊢
 (repeat' (first|(with_reducible (refine ai (λh=>?_) (λh=>?_))<;>(try simp only[Da,Db,Dc,Dw,De,Df,Dg,Dh]at h))|simp only[EVz,seval,↓reduceIte,EV6,EV7]|fail))
 all_goals(refine hR _ _ (.inl (.inl (congrArg AV.bool ?_))) (SubN.refl _);simp[*])
variable (hG:GOk G)
include hG
theorem f146 (p x:U) (hp:p.kids.length<1000000):Pure G Tryz.prog 146 [.agg p.cs,.agg x.cs] (.int .i64 (dR p p.kids x)):=by
 have hC:=f122 G hG p.kind x.kind
 refine Pure.w c146 λR hR=>?_
 unfold s146 r146
 unfold dR taken at hR
 rw[U.cs_eq p,U.cs_eq x]
 cases hn:nests p.kind x.kind with
 |false=>
  rw[hn]at hC hR
  (repeat' (first|(with_reducible refine aa hC ?_)|simp only[EVz,seval,↓reduceIte,EV6,EV7,hne]|simp only[EVz,seval,↓reduceIte,EV6,EV7]|(with_reducible intro blk hblk;(try(have hnx:=hblk;simp only[EVK]at hnx;(have hne:=hnx))))|fail))
  all_goals exact RQ hR
 |true=>
  rw[hn]at hC hR
  simp only[Bool.true_eq_false,if_false]at hR
  (repeat' (first|(with_reducible refine aa hC ?_)|simp only[EVz,seval,↓reduceIte,EV6,EV7,hne]|simp only[EVz,seval,↓reduceIte,EV6,EV7]|(with_reducible intro blk hblk;(try(have hnx:=hblk;simp only[EVK]at hnx;(have hne:=hnx))))|fail))
  have hF:=f215k G [(blk,.cells 27 x.cs)] (.func (.func 236) #[] #[.pointer (some ⟨blk,0,none⟩)]) (λk=>decide (k.kind=x.kind)&&decide (k.label=x.label)) p.kids (by omega)
   (λy hy=>⟨_,_,_,rfl,f236 G blk x y⟩)
  rw[U.cs_eq x]at hF
  cases ht:(p.kids.any λk=>decide (k.kind=x.kind)&&decide (k.label=x.label))with
  |false=>
   rw[ht]at hF hR
   (repeat' (first|simp only[EVz,seval,↓reduceIte,EV6,EV7,hne]|(refine ec hF.v ?_)|fail))
   all_goals exact RQ hR
  |true=>
   rw[ht]at hF hR
   (repeat' (first|simp only[EVz,seval,↓reduceIte,EV6,EV7,hne]|(refine ec hF.v ?_)|fail))
   all_goals exact RQ hR
omit hG
theorem f147 (u:U) (q:Idd) (x:U) (ht:u.Tame) (hx:x.Tame):Pure G Tryz.prog 147 [.agg u.cs,.agg q.cs,.agg x.cs] (.bool (decide (8<(((anc q u).length:Int)+1+x.dep)))):=by
 have hA:=f214 G q u ht
 have hD:=f125 G x hx
 simp only[Idd.cs]at hA
 have h1:(anc q u).length<=u.flat.length:=by
  unfold anc
  rw[length_reverse,length_map,length_dropLast]
  have:=eF q u
  omega
 have h2:=ht.2
 have h3:=x.dep_cnt
 have h4:=hx.2
 have h5:=x.dep_ge
 unfold U.cnt at h3
 have w1:IntKind.i64.wrap (((anc q u).length:Int)+1)=((anc q u).length:Int)+1:=aA (by omega) (by omega)
 have w2:IntKind.i64.wrap (((anc q u).length:Int)+1+x.dep)=((anc q u).length:Int)+1+x.dep:=aA (by omega) (by omega)
 refine Pure.w c147 λR hR=>?_
 unfold s147 r147
 (repeat' (first|(with_reducible first|refine aa hA ?_|refine aa hD ?_)|simp only[EVz,seval,↓reduceIte,EV6,EV7,w1,w2]|fail))
 all_goals exact RQ hR
end
def dh:Option (Idd×Nat)->AV
 |some (q,k)=>.tup [.agg [.int .i64 q.act,.int .i64 q.item,.int .i64 q.n,.int .i64 k],.int .i64 0]
 |none=>.tup [.agg [.int .i64 0,.int .i64 0,.int .i64 0,.int .i64 0],.int .i64 9]
def cI:(Idd×Nat) ⊕ Int->AV
 | .inl (q,k)=>.tup [.agg [.int .i64 q.act,.int .i64 q.item,.int .i64 q.n],.int .i64 k,.int .i64 0]
 | .inr e=>.tup [.agg [.int .i64 0,.int .i64 0,.int .i64 0],.int .i64 0,.int .i64 e]
def dest (u:U) (x:Itm):(Idd×Nat) ⊕ Int:=
 if (one u x.at_).2≠0 then .inr (one u x.at_).2
 else if x.kind=0 then (match spot u (one u x.at_).1 x.wh with|none=>.inr 9|some q=>.inl q)
 else if (one u x.to_).2≠0 then .inr (one u x.to_).2
 else match dY u (one u x.at_).1 (one u x.to_).1 x.wh with|none=>.inr 9|some q=>.inl q
theorem fG {i:Idd} {u:U} (hi:i∈u.ids):(U.way i u).isEmpty=false:=by
 have:=cq.2 hi
 cases h:U.way i u<;>simp_all
section
variable (G:Glob)
theorem f299 (u:U) (i:Idd) (f:Value) (m:Int) (hs:u.Short) (hi:i∈u.ids) (hf:eZ G Tryz.prog f [.int .i64 (fnd i u).kids.length] (.int .i64 m)):
  Pure G Tryz.prog 299 [.agg u.cs,.agg i.cs,.sc f] (.tup [.agg [.int .i64 i.act,.int .i64 i.item,.int .i64 i.n,.int .i64 m],.int .i64 0]):=by
 have hF:=f44 G i u hs
 unfold gV at hF
 rw[fG hi,if_neg (by simp)]at hF
 simp only[Idd.cs]at hF
 rw[U.cs_eq (fnd i u)]at hF
 refine Pure.w c299 λR hR=>?_
 unfold s299 r299
 (repeat' (first|(with_reducible refine aa hF ?_)|simp only[EVz,seval,↓reduceIte,EV6,EV7,hne]|simp only[EVz,seval,↓reduceIte,EV6,EV7]|(with_reducible intro blk hblk;(try(have hnx:=hblk;simp only[EVK]at hnx;first|(have hne:=AI hnx hne)|(have hne:=hnx))))|(refine aI hf ?_)|fail))
 all_goals exact RQ hR
theorem f300 (n:Int):Pure G Tryz.prog 300 [.int .i64 n] (.int .i64 0):=by
 refine Pure.w c300 λR hR=>?_
 unfold s300 r300
 (repeat' (simp only[EVz,seval,↓reduceIte,EV6,EV7]))
 (all_goals((exact RET.eq hR rfl)))
theorem f302 (n:Int):Pure G Tryz.prog 302 [.int .i64 n] (.int .i64 n):=by
 refine Pure.w c302 λR hR=>?_
 unfold s302 r302
 (repeat' (simp only[EVz,seval,↓reduceIte,EV6,EV7]))
 (all_goals((exact RET.eq hR rfl)))
theorem f298 (u:U) (i:Idd) (hs:u.Short) (hi:i∈u.ids):Pure G Tryz.prog 298 [.agg u.cs,.agg i.cs] (dh (spot u i 0)):=by
 have hF:=f299 G u i _ 0 hs hi (f300 G _).v
 simp only[Idd.cs]at hF
 refine Pure.w c298 λR hR=>?_
 unfold s298 r298
 (repeat' (first|(with_reducible refine aa hF ?_)|simp only[EVz,seval,↓reduceIte,EV6,EV7,hne]|simp only[EVz,seval,↓reduceIte,EV6,EV7]|(with_reducible intro blk hblk;(try(have hnx:=hblk;simp only[EVK]at hnx;(have hne:=hnx))))|fail))
 all_goals exact RQ hR
theorem f301 (u:U) (i:Idd) (hs:u.Short) (hi:i∈u.ids):Pure G Tryz.prog 301 [.agg u.cs,.agg i.cs] (dh (spot u i 1)):=by
 have hF:=f299 G u i _ _ hs hi (f302 G _).v
 simp only[Idd.cs]at hF
 refine Pure.w c301 λR hR=>?_
 unfold s301 r301
 (repeat' (first|(with_reducible refine aa hF ?_)|simp only[EVz,seval,↓reduceIte,EV6,EV7,hne]|simp only[EVz,seval,↓reduceIte,EV6,EV7]|(with_reducible intro blk hblk;(try(have hnx:=hblk;simp only[EVK]at hnx;(have hne:=hnx))))|fail))
 all_goals exact RQ hR
theorem f304 (u:U) (i:Idd) (b:Nat) (hb:b<=1) (hs:u.Short) (hn:u.ids.Nodup) (hk:∀q,aF i u=some q->q.2.2<1000000):
  Pure G Tryz.prog 304 [.agg u.cs,.agg i.cs,.int .i64 b] (dh ((aF i u).map λq=>(q.1.id,q.2.2+b))):=by
 have hF:=f131 G i u hs hn
 simp only[Idd.cs]at hF
 unfold gW at hF
 refine Pure.w c304 λR hR=>?_
 unfold s304 r304
 rcases hw:aF i u with _|⟨p,d,k⟩
 ·rw[hw]at hF hR
  (repeat' (first|(with_reducible refine aa hF ?_)|simp only[EVz,seval,↓reduceIte,EV6,EV7,hne]|simp only[EVz,seval,↓reduceIte,EV6,EV7]|(with_reducible intro blk hblk;(try(have hnx:=hblk;simp only[EVK]at hnx;first|(have hne:=AI hnx hne)|(have hne:=hnx))))|fail))
  all_goals exact RQ hR
 ·have hkk:=hk _ hw
  rw[hw]at hF hR
  simp only at hkk
  have e:IntKind.i64.wrap ((k:Int)+(b:Int))=((k+b:Nat):Int):=by rw[aA (by omega) (by omega)];omega
  (repeat' (first|(with_reducible refine aa hF ?_)|simp only[EVz,seval,↓reduceIte,EV6,EV7,e,hne]|simp only[EVz,seval,↓reduceIte,EV6,EV7,e]|(with_reducible intro blk hblk;(try(have hnx:=hblk;simp only[EVK]at hnx;first|(have hne:=AI hnx hne)|(have hne:=hnx))))|fail))
  all_goals exact RQ hR
theorem f303 (u:U) (i:Idd) (hs:u.Short) (hn:u.ids.Nodup) (hk:∀q,aF i u=some q->q.2.2<1000000):Pure G Tryz.prog 303 [.agg u.cs,.agg i.cs] (dh (spot u i 2)):=by
 have hF:=f304 G u i 1 (by omega) hs hn hk
 simp only[Idd.cs]at hF
 have e:spot u i 2=(aF i u).map λq=>(q.1.id,q.2.2+1):=by unfold spot;simp
 rw[e]
 obtain⟨z,hz⟩:∃z,(aF i u).map (λq=>(q.1.id,q.2.2+1))=z:=⟨_,rfl⟩
 rw[hz]at hF ⊢
 refine Pure.w c303 λR hR=>?_
 unfold s303 r303
 unfold dh at hF hR
 rcases z with _|⟨q,k⟩<;>(repeat' (first|(with_reducible refine aa hF ?_)|simp only[EVz,seval,↓reduceIte,EV6,EV7,hne]|simp only[EVz,seval,↓reduceIte,EV6,EV7]|(with_reducible intro blk hblk;(try(have hnx:=hblk;simp only[EVK]at hnx;(have hne:=hnx))))|fail))
 all_goals exact RQ hR
theorem f305 (u:U) (i:Idd) (hs:u.Short) (hn:u.ids.Nodup) (hk:∀q,aF i u=some q->q.2.2<1000000):Pure G Tryz.prog 305 [.agg u.cs,.agg i.cs] (dh (spot u i 3)):=by
 have hF:=f304 G u i 0 (by omega) hs hn hk
 simp only[Idd.cs]at hF
 have e:spot u i 3=(aF i u).map λq=>(q.1.id,q.2.2+0):=by unfold spot;simp
 rw[e]
 obtain⟨z,hz⟩:∃z,(aF i u).map (λq=>(q.1.id,q.2.2+0))=z:=⟨_,rfl⟩
 rw[hz]at hF ⊢
 refine Pure.w c305 λR hR=>?_
 unfold s305 r305
 unfold dh at hF hR
 rcases z with _|⟨q,k⟩<;>(repeat' (first|(with_reducible refine aa hF ?_)|simp only[EVz,seval,↓reduceIte,EV6,EV7,hne]|simp only[EVz,seval,↓reduceIte,EV6,EV7]|(with_reducible intro blk hblk;(try(have hnx:=hblk;simp only[EVK]at hnx;(have hne:=hnx))))|fail))
 all_goals exact RQ hR
theorem f273:Pure G Tryz.prog 273 [] (.agg [fnV 298,fnV 301,fnV 303,fnV 305]):=by
 refine Pure.w c273 λR hR=>?_
 unfold s273 r273
 (repeat' (first|simp only[EVz,seval,↓reduceIte,EV6,EV7]|(with_reducible intro blk hblk;(try(have hnx:=hblk;simp only[EVK]at hnx;(have hne:=hnx))))|(refine oA (e:=245) (by kernel_rfl) (by kernel_rfl) (by kernel_rfl) ?_)|fail))
 all_goals exact RQ hR
def leadV (wh:Int):Value:=.func (.func (if wh=0 then 298 else if wh=1 then 301 else if wh=2 then 303 else 305)) #[] #[]
theorem lw (u:U) (i:Idd) (wh:Int) (h0:0<=wh) (h3:wh<=3) (hs:u.Short) (hi:i∈u.ids) (hn:u.ids.Nodup) (hk:∀q,aF i u=some q->q.2.2<1000000):eZ G Tryz.prog (leadV wh) [.agg u.cs,.agg i.cs] (dh (spot u i wh)):=by
 have hh:wh=0\/wh=1\/wh=2\/wh=3:=by omega
 rcases hh with rfl|rfl|rfl|rfl
 ·exact(f298 G u i hs hi).v
 ·exact(f301 G u i hs hi).v
 ·exact(f303 G u i hs hn hk).v
 ·exact(f305 G u i hs hn hk).v
theorem nX (w:Nat) (h:w<4):[fnV 298,fnV 301,fnV 303,fnV 305].getD w .any= .sc (leadV w):=by
 have hh:w=0\/w=1\/w=2\/w=3:=by omega
 rcases hh with rfl|rfl|rfl|rfl<;>rfl
end
end Go.Av
namespace Go.Av
open Go Go.RowKit List
set_option linter.unusedSimpArgs false
set_option linter.unusedVariables false
theorem SubN.pull1 {x:Nat×AObj} {κ σ:Store}:SubN (x::(κ++σ)) (κ++x::σ):=SubN.perm perm_middle.symm
theorem SubN.pull2 {x y:Nat×AObj} {κ σ:Store}:SubN (x::y::(κ++σ)) (κ++x::y::σ):=SubN.trans (SubN.cons SubN.pull1 _) SubN.pull1
theorem SubN.pull2' {x y:Nat×AObj} {κ σ:Store}:SubN (y::x::(κ++σ)) (κ++x::y::σ):=SubN.trans (SubN.perm (List.Perm.swap _ _ _)) SubN.pull2
theorem SubN.push {x y:Nat×AObj} {l:Store}:SubN ((x::l)++[y]) (x::y::l):=by
 rw[cons_append]
 exact SubN.cons (SubN.perm (perm_append_comm (l₁:=l) (l₂:=[y]))) _
theorem SubN.pop {x y:Nat×AObj} {l:Store}:SubN (x::y::l) ((x::l)++[y]):=by
 rw[cons_append]
 exact SubN.cons (SubN.perm (perm_append_comm (l₁:=[y]) (l₂:=l))) _
theorem SubN.push' {x y:Nat×AObj} {κ σ:Store}:SubN ((x::(σ++κ))++[y]) (x::y::(κ++σ)):=
 SubN.trans (SubN.push) (SubN.cons (SubN.cons (SubN.perm perm_append_comm) _) _)
theorem SubN.pop' {x y:Nat×AObj} {κ σ:Store}:SubN (x::y::(κ++σ)) ((x::(σ++κ))++[y]):=
 SubN.trans (SubN.cons (SubN.cons (SubN.perm perm_append_comm) _) _) SubN.pop
section
variable {G:Glob} {P:Program}
theorem ag.fr {k:FuncId} {args:List AV} {σf:Store} {R R2:AV->Store->Prop} (σr:Store) (h:ag G P k args σf R)
  (hk:∀r σ',R r σ'->(σ'++σr:Store).keys.Nodup->∃σ2,SubN σ2 (σ'++σr)/\R2 r σ2):ag G P k args (σf++σr) R2:=
 ⟨h.1,λρ w vs hS hA=>by
  rw[append_assoc]at hS hA
  refine(h.2 (σr++ρ) w vs hS hA).mono λe w' ⟨v,r,σ',he,hR,hsat,hev,hrep⟩=>?_
  have hsat2:Sat G ((σ'++σr)++ρ) w':=by rwa [append_assoc]
  obtain⟨σ2,h1,h2⟩:=hk r σ' hR hsat2.nodup_left
  rw[←append_assoc]at hrep
  exact⟨v,r,σ2,he,h2,hsat2.subN h1,(hev.frame (λq hq=>hq)).trans (Ev.of_sub h1.1 w'),Rep.sub (λq hq=>by
   rcases mem_append.1 hq with hq|hq
   ·exact mem_append.2 (.inl (h1.1 q hq))
   ·exact mem_append.2 (.inr hq)) hrep⟩⟩
theorem cd.fr {f:Value} {args:List AV} {σf:Store} {R R2:AV->Store->Prop} (σr:Store) (h:cd G P f args σf R)
  (hk:∀r σ',R r σ'->(σ'++σr:Store).keys.Nodup->∃σ2,SubN σ2 (σ'++σr)/\R2 r σ2):cd G P f args (σf++σr) R2:=by
 obtain⟨k,a,b,e,h⟩:=h
 exact⟨k,a,b,e,h.fr σr hk⟩
theorem aT {f:Value} {args args':List AV} {σ:Store} {K:AV->Store->Prop} {t:Tag K} {R:AV->Store->Prop} (σf σr:Store)
  (h:cd G P f args' σf R) (ha:ax args args') (hs:SubN (σf++σr) σ) (hk:∀r σ',R r σ'->(σ'++σr:Store).keys.Nodup->∃σ2,SubN σ2 (σ'++σr)/\K r σ2):CALL G P f args σ K t:=
 aZ (σf++σr) [] (h.fr σr hk) ha (by rwa [append_nil]) (λr σ' h=>by rwa [append_nil])
end
end Go.Av
