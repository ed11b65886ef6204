/-
  ENACT, M14: editable books, as the document says it.
-/
import Derived.Test.YtnoakpkjccigoaaGreatDoorVXM17toXM13
import Derived.Test.YtnoakpkjccigoaaGreatDoorVXAv34toXM15
import Derived.Test.YtnoakpkjccigoaaGreatDoorVXM2toXOpE
import Derived.Test.YtnoakpkjccigoaaGreatDoorVXE12toXL29
import Derived.Test.YtnoakpkjccigoaaGreatDoorVXC4
import Derived.Test.YtnoakpkjccigoaaGreatDoorVXC5
import Derived.Test.YtnoakpkjccigoaaGreatDoorVXC6
import Derived.Test.YtnoakpkjccigoaaGreatDoorVXU1toXU12
namespace Go.Av
open Go Go.RowKit Go.Proofs List
set_option linter.unusedSimpArgs false
set_option linter.unusedVariables false
section
mutual
def U.named:U->Bool
 |⟨d,k,l,h,w,ks⟩=>(decide (k=0)|| !decide (d=zId))&&U.nameds ks
def U.nameds:List U->Bool
 |[]=>true
 |u::us=>U.named u&&U.nameds us
end
theorem U.named_eq (u:U):u.named=((decide (u.kind=0)|| !decide (u.id=zId))&&U.nameds u.kids):=by cases u;rw[U.named]
theorem U.nameds_nil:U.nameds []=true:=by rw[U.nameds]
theorem U.nameds_cons (u:U) (us:List U):U.nameds (u::us)=(u.named&&U.nameds us):=by rw[U.nameds]
theorem oD:∀u:U,u.named=true->∀y∈u.flat,y.kind=0\/y.id≠zId:=by
 refine U.ind λu ih h y E=>?_
 rw[U.named_eq,Bool.and_eq_true]at h
 rw[U.flat_eq]at E
 rcases mem_cons.1 E with rfl|E
 ·have:=h.1
  simp only[Bool.or_eq_true,decide_eq_true_eq,Bool.not_eq_true',decide_eq_false_iff_not]at this
  exact this
 ·obtain⟨k,D,E⟩:=bN E
  have:∀us:List U,U.nameds us=true->∀k∈us,k.named=true:=by
   intro us
   induction us with
   |nil=>intro _ k D;cases D
   |cons x us ihu=>
    intro h k D
    rw[U.nameds_cons,Bool.and_eq_true]at h
    rcases mem_cons.1 D with rfl|D
    ·exact h.1
    ·exact ihu h.2 k D
  exact ih k D (this u.kids h.2 k D) y E
def ig (u:U):Bool:=decide (u.kind=0)&&(pF u&&u.named)
theorem nW {u:U} (h:ig u=true):Good u:=by
 unfold ig at h
 rw[kG]at h
 unfold pq at h
 simp only[Bool.and_eq_true,decide_eq_true_eq]at h
 obtain⟨N,⟨hn,Z,Y,hi⟩,T⟩:=h
 have D:=all_eq_true.1 hn
 have M:=oD u T
 have F:u.ids.Nodup/\u.id=zId:=by
  unfold pH at hi
  rcases Bool.or_eq_true_iff.1 hi with hz|hz
  ·have E:=all_eq_true.1 hz
   have hk:u.kids=[]:=by
    cases O:u.kids with
    |nil=>rfl
    |cons k ks=>
     exfalso
     have J:k∈u.kids:=by rw[O];simp
     have I:k∈u.flat:=U.flat_kid J k.flat_self
     have V:=jd (df (D u u.flat_self) k J)
     have X:k.id=zId:=by simpa using E k.id (mem_map.2 ⟨k,I,rfl⟩)
     rcases M k I with h3|h3
     ·exact V h3
     ·exact h3 X
   have e:u.ids=[u.id]:=by rw[U.ids_eq,hk,U.idss_nil]
   refine⟨by rw[e];simp,?_⟩
   simpa using E u.id (cR u)
  ·rw[Bool.and_eq_true,decide_eq_true_eq,decide_eq_true_eq]at hz
   refine⟨hz.2,?_⟩
   have:=hz.1
   rw[decide_eq_true N]at this
   simpa using this
 refine⟨F.1,D,by unfold U.dep at Z;omega,by unfold U.cnt at Y;omega,⟨λ_=>F.2,λ_=>N⟩,λh=>absurd N h⟩
section
variable (G:Glob)
theorem f108:∀(u:U),u.Tame->Pure G Tryz.prog 108 [.agg u.cs] (.bool u.named):=by
 refine U.ind λu ih I=>?_
 have J:=I.kids
 refine Pure.w c108 λR F=>?_
 unfold s108 r108
 rw[U.named_eq]at F
 (repeat' (first|(with_reducible (first|refine ab (λh=>?_) (λh=>?_)|refine ai (λh=>?_) (λh=>?_))<;>(try simp only[DZ]at h))|(with_reducible refine aa (ih x D.mem (I.kid D.mem)) ?_)|simp only[EVz,seval,↓reduceIte,EV6,EV7,pu,D.yes,D.le0,D.lt',D.get,D.row,N]|simp only[EVz,seval,↓reduceIte,EV6,EV7,pu,M]|simp only[EVz,seval,↓reduceIte,EV6,EV7,pu]|(refine ap D () ?_ (Weak.rfl' _ _))|(refine ay (u.kids) (λi r (c:Unit)=>U.nameds u.kids=U.nameds r) (λi c=>[(1,.ref u.cs),(3,.int .i64 i)]) (λ_ _=>[]) () (by rfl) (Weak.rfl' _ _) (by omega) (λi x r c E D N=>?_) (λc E M=>?_))))
 (all_goals(first|(refine RET.eq F ?_;first|(simp only[U.nameds_nil,U.nameds_cons,E,h,EVC,decide_true,decide_false];done)|(simp_all[U.nameds_nil,U.nameds_cons];done))|(rw[E];simp only[U.nameds_nil,U.nameds_cons,h,EVC,decide_true,decide_false];done)))
theorem f54 (u:U) (D:u.Short):Pure G Tryz.prog 54 [.agg u.cs] (.bool (pF u&&u.named)):=by
 have E:=f107 G u D
 have F:=f108 G u D.1
 refine Pure.w c54 λR I=>?_
 unfold s54 r54
 generalize pF u=q1 at*
 generalize u.named=q2 at*
 (repeat' (first|(with_reducible (refine ai (λh=>?_) (λh=>?_))<;>(try simp only[DZ]at h))|(with_reducible first|refine aa E ?_|refine aa F ?_)|simp only[EVz,seval,↓reduceIte,EV6,EV7]))
 (all_goals(((refine RET.eq I ?_;((simp_all[];done))))))
theorem f33 (u:U) (F:u.Short):Pure G Tryz.prog 33 [.agg u.cs] (.bool (ig u)):=by
 have E:=f54 G u F
 refine Pure.w c33 λR D=>?_
 unfold s33 r33
 unfold ig at D
 generalize (pF u&&u.named)=q1 at*
 (repeat' (first|(with_reducible (refine ai (λh=>?_) (λh=>?_))<;>(try simp only[DZ]at h))|(with_reducible refine aa E ?_)|simp only[EVz,seval,↓reduceIte,EV6,EV7]))
 (all_goals(first|(refine RET.eq D ?_;(refine congrArg AV.bool (Bool.eq_iff_iff.2 ?_);simp only[EVB]at*;omega))|(refine RET.eq D ?_;((simp_all[];done)))))
end
end
section
variable (G:Glob)
set_option maxHeartbeats 2000000 in
theorem f235 (F:Nat) (a b:Int):∀(u:U),u.Short->∀n m:Int,0<=n->0<=m->n+1+u.flat.length<=100000000000->m+u.wt<=100000000000->
  ag G Tryz.prog 235 [.sc (.pointer (some ⟨F,0,none⟩)),.agg u.cs] [(F,.cells 216 (stp4 a b n m))] λr σ'=>r= .agg (U.stamp a b u (n+1) m).1.cs/\
   σ'=[(F,.cells 216 (stp4 a b ((U.stamp a b u (n+1) m).2.1-1) (U.stamp a b u (n+1) m).2.2))]:=by
 refine U.ind λu ih hs n m dl ch cp cm=>?_
 have d4:=hs.1.kids
 have hu:=hs.2 u u.flat_self
 rw[U.flat_eq,length_cons]at cp
 rw[U.wt_eq]at cm
 have bq:=f274 G F u.head a b (n+1) m hu.2.1 ch (by omega)
 have bu:=f274 G F u.words a b (n+1) (m+u.head.length) hu.2.2.1 (by omega) (by omega)
 have w1:IntKind.i64.wrap (n+1)=n+1:=aA (by omega) (by omega)
 obtain⟨w,hw⟩:∃w,U.stamp a b u (n+1) m=w:=⟨_,rfl⟩
 rw[hw]
 refine ag.freezeK (R1:=λσ'=>σ'=[(F,.cells 216 (stp4 a b (w.2.1-1) w.2.2))]) ?_
 refine ag.w c235 ?_
 unfold s235 r235
 rw[U.stamp_eq]at hw
 have V:0+u.kids.length*8<=(List.replicate u.kids.length zU).flatten.length:=by rw[cb];simp[zU]
 have ac:(u.kids.map U.cs).flatten.length=u.kids.length*8:=by rw[au _ (dZ _),length_map]
 have bk:aH (List.replicate u.kids.length zU).flatten 0 ((u.kids.map U.cs).take u.kids.length).flatten=(u.kids.map U.cs).flatten:=by
  rw[take_of_length_le (by simp),aY _ _ _ (by rw[ac];exact V),drop_eq_nil_of_le (by rw[ac,cb];simp[zU])]
  simp
 obtain⟨M,be⟩:∃M,n+1+1=M:=⟨_,rfl⟩
 obtain⟨J,bd⟩:∃J,m+(u.head.length:Int)+(u.words.length:Int)=J:=⟨_,rfl⟩
 rw[be,bd]at hw
 obtain⟨S,hS⟩:∃S:Nat->List U×Int×Int,S=λi=>U.stamps a b (u.kids.take i) M J:=⟨_,rfl⟩
 have Z:∀i,(S i).2.1=M+(U.flats (u.kids.take i)).length/\(S i).2.2=J+U.wts (u.kids.take i)/\(S i).1.length=(u.kids.take i).length:=λi=>by rw[hS];exact jo a b _ M J
 obtain⟨L,hL⟩:∃L:Nat->List (List AV),L=λi=>((S i).1++u.kids.drop i).map U.cs:=⟨_,rfl⟩
 have an:S 0=([],M,J):=by rw[hS];simp only[take_zero,U.stamps_nil]
 have bn:(L 0).flatten=(u.kids.map U.cs).flatten:=by rw[hL];simp only[an,nil_append,drop_zero]
 have bl:stp4 a b ((S 0).2.1-1) (S 0).2.2=stp4 a b (n+1) (m+(u.head.length:Int)+(u.words.length:Int)):=by
  rw[an]
  show stp4 a b (M-1) J=_
  rw[bd,←be]
  congr 1
  omega
 have O:∀i,∀r∈L i,r.length=8:=λi=>by rw[hL];exact dZ _
 have N:∀i,i<=u.kids.length->(L i).length=u.kids.length:=λi hi=>by
  rw[hL]
  simp only[length_map,length_append,length_drop,(Z i).2.2,length_take]
  omega
 have al:∀i,i<=u.kids.length->(L i).flatten.length=u.kids.length*8:=λi hi=>by rw[au _ (O i),N i hi]
 rw[U.cs_eq u]
 (repeat' (first|simp only[EVz,seval,↓reduceIte,EV6,EV7,w1,D]|simp only[EVz,seval,↓reduceIte,EV6,EV7,w1]|(with_reducible intro E ba;(try(have ah:=ba;simp only[EVK]at ah;first|(have D:=AI ah D)|(have D:=ah))))|(with_reducible first|refine ae ?_ ?_|refine af ?_)|(refine av [(F,_)] [(_,_),(_,_)] bq.v (ax.rfl' _) (SubN.perm (perm_append_comm (l₁:=[_]) (l₂:=[_,_]))) (λr1 cw h1 D=>?_))|(obtain⟨rfl,rfl⟩:=h1)|(simp[Store.keys]at D)|(refine av [(F,_)] [(_,_),(_,_)] bu.v (ax.rfl' _) (SubN.refl _) (λr2 e0 h1 D=>?_))|(refine iA (elem:=27) (c:=u.kids.length) (sz:=8) (bytes:=120) (zr:=zU) (z:=.agg #[.int .i64 0,.int .i64 0,.int .i64 0,.int .i64 0,.string .empty,.slice none 0 0,.slice none 0 0,.slice none 0 0]) rfl (by kernel_rfl) (by kernel_rfl) rfl (by omega) (by decide) (by intro τ w;simp[zU,RepL,Rep,Value.cells];rfl) (by omega) (by omega) ?_)|(refine lM (elem:=27) (sz:=8) (ys:=u.kids.map U.cs) u.kids.length (u.kids.map U.cs).flatten (by kernel_rfl) (by kernel_rfl) rfl (if_pos rfl) (.inl ⟨rfl,rfl⟩) (by simp) V bk ?_)))
 all_goals
  rename_i X _ _ _ Y _ _ _ _ _
  have q1:¬F=E:=λe=>D.1.1 e.symm
  have q2:¬Y=E:=λe=>D.1.2.1 e.symm
  have q3:¬X=E:=λe=>D.1.2.2 e.symm
  refine ay u.kids (λi r (c:Unit)=>True) (λi c=>[(0,.sc (.pointer (some ⟨F,0,none⟩))),(3,.sc (.pointer (some ⟨X,0,none⟩))),(4,.sc (.pointer (some ⟨Y,0,none⟩))),(5,.sc (.slice (some ⟨E,0,none⟩) u.kids.length u.kids.length)),(47,.int .i64 u.kids.length),(48,.int .i64 i)])
   (λi c=>[(E,.cells 27 (L i).flatten),(F,.cells 216 (stp4 a b ((S i).2.1-1) (S i).2.2)),(Y,.cells 27 zU),(X,.cells 27 [.int .i64 a,.int .i64 b,.int .i64 (n+1),.int .i64 u.kind,.str u.label,.lst 4 ((aX a b (u.head.map Wd.text) m).map Wd.cs),.lst 4 ((aX a b (u.words.map Wd.text) (m+u.head.length)).map Wd.cs),.lst 8 (u.kids.map U.cs)])]) () trivial (by rw[bn,bl];exact Weak.rfl' _ _) (by omega) (λi k r c _ I hw=>?_) (λc _ hn=>?_)
  ·obtain⟨s1,s2,s3⟩:=Z i
   obtain⟨t1,t2,t3⟩:=Z (i+1)
   have T:=I.lt
   have ac:(U.flats (u.kids.take (i+1))).length<=(U.flats u.kids).length:=by
    conv=>rhs;rw[←take_append_drop (i+1) u.kids,cJ,length_append]
    omega
   have ds:U.wts (u.kids.take (i+1))<=U.wts u.kids:=by
    conv=>rhs;rw[←take_append_drop (i+1) u.kids,U.wts_app]
    omega
   have d0:(U.flats (u.kids.take (i+1))).length=(U.flats (u.kids.take i)).length+k.flat.length:=by rw[I.take,cJ,pk,pp];simp
   have d3:U.wts (u.kids.take (i+1))=U.wts (u.kids.take i)+k.wt:=by rw[I.take,U.wts_app,U.wts_cons,U.wts_nil];simp
   have bb:=ih k I.mem (hs.kid I.mem) ((S i).2.1-1) (S i).2.2 (by omega) (by omega) (by omega) (by omega)
   rw[show(S i).2.1-1+1=(S i).2.1 by omega]at bb
   have aw:S (i+1)=((S i).1++[(U.stamp a b k (S i).2.1 (S i).2.2).1],(U.stamp a b k (S i).2.1 (S i).2.2).2):=by
    simp only[hS]
    rw[I.take,lc]
   have bw:(L i)[i]? =some k.cs:=by
    rw[hL]
    simp only[getElem?_map]
    rw[getElem?_append_right (by rw[s3,length_take];omega),s3,length_take,Nat.min_eq_left (by omega),Nat.sub_self,getElem?_drop,Nat.add_zero,getElem?_eq_getElem T,←I.get k]
    simp[T]
   have bx:((L i).flatten.drop (0+i*8)).take 8=k.cs:=by simpa using jI (pad:=[]) (O i) bw
   have d1:8<=((L i).flatten.drop (0+i*8)).length:=by rw[length_drop,al i (by omega)];omega
   have bp:L (i+1)=(L i).set i (U.stamp a b k (S i).2.1 (S i).2.2).1.cs:=by
    have h3:u.kids.drop i=k::u.kids.drop (i+1):=by
     rw[drop_eq_getElem_cons T]
     congr 1
     simpa[T]using I.get k
    have bm:(S i).1.length=i:=by rw[s3,length_take];omega
    rw[hL]
    simp only[aw]
    rw[h3]
    simp only[map_append,map_cons,map_nil]
    rw[set_append_right _ _ (by simp[bm])]
    simp[bm]
   have bi:aH (L i).flatten (0+i*8) (U.stamp a b k (S i).2.1 (S i).2.2).1.cs=(L (i+1)).flatten:=by
    rw[bp]
    rw[Nat.zero_add]
    simpa using iK (pad:=[]) (O i) (by rw[N i (by omega)];omega) (U.cs_len _)
   have dd:=al i (by omega)
   (repeat' (first|(with_reducible refine AI (by omega) ?_)|simp only[EVz,seval,↓reduceIte,EV6,EV7,I.yes,I.le0,I.lt',I.get,hw,bx,q1,q2,q3,bi,D]|(refine av [(F,_)] [(E,_),(Y,_),(X,_)] bb.v (ax.rfl' _) (SubN.perm (List.Perm.swap _ _ _)) (λr1 cw h1 d2=>?_))|(obtain⟨rfl,rfl⟩:=h1)))
   all_goals
    refine ap I () trivial ?_
    rw[aw]
    exact Weak.sub (SubN.perm (List.Perm.swap _ _ _))
  ·have bh:S u.kids.length=U.stamps a b u.kids M J:=by simp only[hS];rw[take_length]
   have bo:L u.kids.length=(U.stamps a b u.kids M J).1.map U.cs:=by rw[hL];simp only[bh,drop_length,append_nil]
   have dc:(U.stamps a b u.kids M J).1.length=u.kids.length:=(jo a b u.kids M J).2.2
   have p1:¬E=Y:=D.1.2.1
   have p2:¬E=X:=D.1.2.2
   have p3:¬F=Y:=D.2.1.1
   have p4:¬F=X:=D.2.1.2
   have p5:¬Y=X:=D.2.2
   (repeat' (simp only[EVz,seval,↓reduceIte,EV6,EV7,hn,q1,q2,q3,p1,p2,p3,p4,p5,D]))
   refine RET.mk' (σ':=[(E,.cells 27 (L u.kids.length).flatten)]++[(F,.cells 216 (stp4 a b ((S u.kids.length).2.1-1) (S u.kids.length).2.2))]) (SubN.left (σ:=[_,_]) (τ:=[_,_])) ⟨_,_,_,rfl,?_,rfl,?_⟩
   ·rw[←hw,U.cs_eq]
    exact⟨.inl rfl,.inl rfl,.inl rfl,.inl rfl,.inl rfl,.inl rfl,.inl rfl,.inr ⟨27,8,L u.kids.length,_,bD.mk0 (N _ (Nat.le_refl _)).symm (by rw[N _ (Nat.le_refl _)];unfold maxLen;omega) (O _),λq hq=>hq,by rw[bo]⟩,trivial⟩
   ·rw[bh,←hw]
theorem f145 (u:U) (a b:Int) (I:u.Short) (V:u.wt<=90000000000):Pure G Tryz.prog 145 [.agg u.cs,.int .i64 a,.int .i64 b] (.agg (cz u a b).cs):=by
 have T:=I.1.2
 refine Pure.w c145 λR N=>?_
 unfold s145 r145
 (repeat' (first|simp only[EVz,seval,↓reduceIte,EV6,EV7,D]|simp only[EVz,seval,↓reduceIte,EV6,EV7]|(with_reducible intro J F;(try(have E:=F;simp only[EVK]at E;first|(have D:=AI E D)|(have D:=E))))|(refine av [(_,_)] [(_,_)] (f235 G _ a b u I 0 0 (by omega) (by omega) (by omega) (by omega)).v (ax.rfl' _) (SubN.refl _) (λr1 O M D=>?_))|(obtain⟨rfl,rfl⟩:=M)|(simp[Store.keys]at D)))
 exact RET.eq N rfl
end
section
variable (G:Glob)
theorem f240k (σ:Store) (f:Value) (p:Idd->Bool) (l:List Idd) (N:l.length<9000000000000000000) (I:∀x∈l,cd G Tryz.prog f [.agg x.cs] σ λr σ'=>r= .bool (p x)/\σ'=σ):
  ag G Tryz.prog 240 [.lst 3 (l.map Idd.cs),.sc f] σ λr σ'=>r= .int .i64 (idxF p 0 l)/\σ'=σ:=by
 refine ag.wk c240 λR F=>?_
 unfold s240 r240
 simp only[Idd.cs]at I
 (repeat' (first|(with_reducible (refine ab (λh=>?_) (λh=>?_))<;>(try simp only[DZ]at h))|simp only[EVz,seval,↓reduceIte,EV6,EV7,E.yes,E.le0,E.lt',E.get,E.row,M]|simp only[EVz,seval,↓reduceIte,EV6,EV7,J]|simp only[EVz,seval,↓reduceIte,EV6,EV7]|(refine ap E () ?_ (Weak.rfl' _ _))|(refine ay l (λi r (c:Unit)=>idxF p 0 l=idxF p i r) (λi c=>[(0,.lst 3 (l.map Idd.cs)),(1,.sc f),(7,.int .i64 l.length),(8,.int .i64 i)]) (λ_ _=>σ) () rfl (Weak.rfl' _ _) (by omega) (λi x r c D E M=>?_) (λc D J=>?_))|(refine ec (I _ E.mem) ?_)))
 ·refine F _ _ (.inl (.inl ?_)) (SubN.refl _)
  rw[D,idxF,if_pos h]
 ·rw[D,idxF,h];rfl
 ·refine F _ _ (.inl (.inl ?_)) (SubN.refl _)
  rw[D];rfl
theorem f150k (σ:Store) (f:Value) (p:Idd->Bool) (l:List Idd) (I:l.length<9000000000000000000) (F:∀x∈l,cd G Tryz.prog f [.agg x.cs] σ λr σ'=>r= .bool (p x)/\σ'=σ):
  ag G Tryz.prog 150 [.lst 3 (l.map Idd.cs),.sc f] σ λr σ'=>r= .bool (l.any p)/\σ'=σ:=by
 refine ag.wk c150 λR E=>?_
 unfold s150 r150
 have D:=f240k G σ f p l I F
 (repeat' (first|simp only[EVz,seval,↓reduceIte,EV6,EV7]|(refine ec D.v ?_)))
 exact E _ _ (.inl (.inl (congrArg AV.bool (d7 p l 0)))) (SubN.refl _)
theorem f241 (l:List Idd) (k:Idd) (M:l.length<9000000000000000000):Pure G Tryz.prog 241 [.lst 3 (l.map Idd.cs),.agg k.cs] (.int .i64 (idxF (λx=>decide (k=x)) 0 l)):=by
 refine Pure.w c241 λR F=>?_
 unfold s241 r241
 (repeat' (first|(with_reducible (refine ab (λh=>?_) (λh=>?_))<;>(try simp only[DZ]at h))|simp only[EVz,seval,↓reduceIte,EV6,EV7,gv,E.yes,E.le0,E.lt',E.get,E.row,J]|simp only[EVz,seval,↓reduceIte,EV6,EV7,gv,I]|simp only[EVz,seval,↓reduceIte,EV6,EV7,gv]|(refine ap E () ?_ (Weak.rfl' _ _))|(refine ay (l) (λi r (c:Unit)=>idxF (λx=>decide (k=x)) 0 l=idxF (λx=>decide (k=x)) i r) (λi c=>[(0,.lst 3 (l.map Idd.cs)),(3,.ref k.cs),(7,.int .i64 l.length),(8,.int .i64 i)]) (λ_ _=>[]) () (by rfl) (Weak.rfl' _ _) (by omega) (λi x r c D E J=>?_) (λc D I=>?_))))
 ·refine RET.eq F ?_
  rw[D,idxF,if_pos (decide_eq_true h)]
 ·rw[D,idxF,if_neg (by simpa using h)]
 ·refine RET.eq F ?_
  rw[D];rfl
theorem f152 (l:List Idd) (k:Idd) (I:l.length<9000000000000000000):Pure G Tryz.prog 152 [.lst 3 (l.map Idd.cs),.agg k.cs] (.bool (decide (k∈l))):=by
 have D:=f241 G l k I
 simp only[Idd.cs]at D
 refine Pure.w c152 λR E=>?_
 unfold s152 r152
 (repeat' (first|(with_reducible refine aa D ?_)|simp only[EVz,seval,↓reduceIte,EV6,EV7]))
 refine RET.eq E (congrArg AV.bool ?_)
 rw[d7,Bool.eq_iff_iff,any_eq_true,decide_eq_true_eq]
 constructor
 ·rintro⟨x,J,F⟩;rw[of_decide_eq_true F];exact J
 ·intro h;exact⟨k,h,decide_eq_true rfl⟩
theorem f151 (b:Nat) (l:List Idd) (k:Idd) (F:l.length<9000000000000000000):ag G Tryz.prog 151 [.agg k.cs,.sc (.pointer (some ⟨b,0,none⟩))] [(b,.cells 115 [.lst 3 (l.map Idd.cs)])] λr σ'=>r= .bool (decide (k∈l))/\σ'=[(b,.cells 115 [.lst 3 (l.map Idd.cs)])]:=by
 have D:=f152 G l k F
 simp only[Idd.cs]at D
 refine ag.wk c151 λR E=>?_
 unfold s151 r151
 (repeat' (first|(with_reducible refine aa D ?_)|simp only[EVz,seval,↓reduceIte,EV6,EV7]))
 exact E _ _ (AVle.rfl' _) (SubN.refl _)
theorem f236 (b:Nat) (x k:U):ag G Tryz.prog 236 [.agg k.cs,.sc (.pointer (some ⟨b,0,none⟩))] [(b,.cells 27 x.cs)] λr σ'=>r= .bool (decide (k.kind=x.kind)&&decide (k.label=x.label))/\σ'=[(b,.cells 27 x.cs)]:=by
 refine ag.wk c236 λR D=>?_
 unfold s236 r236
 rw[U.cs_eq x]at D ⊢
 (repeat' (first|(with_reducible (refine ai (λh=>?_) (λh=>?_))<;>(try simp only[DZ]at h))|simp only[EVz,seval,↓reduceIte,EV6,EV7]))
 all_goals(refine D _ _ (.inl (.inl (congrArg AV.bool ?_))) (SubN.refl _);simp[*])
variable (hG:GOk G)
include hG
theorem f146 (p x:U) (V:p.kids.length<1000000):Pure G Tryz.prog 146 [.agg p.cs,.agg x.cs] (.int .i64 (dR p p.kids x)):=by
 have N:=f122 G hG p.kind x.kind
 refine Pure.w c146 λR J=>?_
 unfold s146 r146
 unfold dR taken at J
 rw[U.cs_eq p,U.cs_eq x]
 cases O:nests p.kind x.kind with
 |false=>
  rw[O]at N J
  (repeat' (first|(with_reducible refine aa N ?_)|simp only[EVz,seval,↓reduceIte,EV6,EV7,E]|simp only[EVz,seval,↓reduceIte,EV6,EV7]|(with_reducible intro I D;(try(have F:=D;simp only[EVK]at F;(have E:=F))))))
  all_goals exact RQ J
 |true=>
  rw[O]at N J
  simp only[Bool.true_eq_false,if_false]at J
  (repeat' (first|(with_reducible refine aa N ?_)|simp only[EVz,seval,↓reduceIte,EV6,EV7,E]|simp only[EVz,seval,↓reduceIte,EV6,EV7]|(with_reducible intro I D;(try(have F:=D;simp only[EVK]at F;(have E:=F))))))
  have M:=f215k G [(I,.cells 27 x.cs)] (.func (.func 236) #[] #[.pointer (some ⟨I,0,none⟩)]) (λk=>decide (k.kind=x.kind)&&decide (k.label=x.label)) p.kids (by omega)
   (λy X=>⟨_,_,_,rfl,f236 G I x y⟩)
  rw[U.cs_eq x]at M
  cases T:(p.kids.any λk=>decide (k.kind=x.kind)&&decide (k.label=x.label))with
  |false=>
   rw[T]at M J
   (repeat' (first|simp only[EVz,seval,↓reduceIte,EV6,EV7,E]|(refine ec M.v ?_)))
   all_goals exact RQ J
  |true=>
   rw[T]at M J
   (repeat' (first|simp only[EVz,seval,↓reduceIte,EV6,EV7,E]|(refine ec M.v ?_)))
   all_goals exact RQ J
omit hG
theorem f147 (u:U) (q:Idd) (x:U) (E:u.Tame) (F:x.Tame):Pure G Tryz.prog 147 [.agg u.cs,.agg q.cs,.agg x.cs] (.bool (decide (8<(((anc q u).length:Int)+1+x.dep)))):=by
 have D:=f214 G q u E
 have J:=f125 G x F
 simp only[Idd.cs]at D
 have O:(anc q u).length<=u.flat.length:=by
  unfold anc
  rw[length_reverse,length_map,length_dropLast]
  have:=eF q u
  omega
 have T:=E.2
 have I:=x.dep_cnt
 have V:=F.2
 have X:=x.dep_ge
 unfold U.cnt at I
 have N:IntKind.i64.wrap (((anc q u).length:Int)+1)=((anc q u).length:Int)+1:=aA (by omega) (by omega)
 have w2:IntKind.i64.wrap (((anc q u).length:Int)+1+x.dep)=((anc q u).length:Int)+1+x.dep:=aA (by omega) (by omega)
 refine Pure.w c147 λR M=>?_
 unfold s147 r147
 (repeat' (first|(with_reducible first|refine aa D ?_|refine aa J ?_)|simp only[EVz,seval,↓reduceIte,EV6,EV7,N,w2]))
 all_goals exact RQ M
end
def dh:Option (Idd×Nat)->AV
 |some (q,k)=>.tup [.agg [.int .i64 q.act,.int .i64 q.item,.int .i64 q.n,.int .i64 k],.int .i64 0]
 |none=>.tup [.agg [.int .i64 0,.int .i64 0,.int .i64 0,.int .i64 0],.int .i64 9]
def cI:(Idd×Nat) ⊕ Int->AV
 | .inl (q,k)=>.tup [.agg [.int .i64 q.act,.int .i64 q.item,.int .i64 q.n],.int .i64 k,.int .i64 0]
 | .inr e=>.tup [.agg [.int .i64 0,.int .i64 0,.int .i64 0],.int .i64 0,.int .i64 e]
def dest (u:U) (x:Itm):(Idd×Nat) ⊕ Int:=
 if (one u x.at_).2≠0 then .inr (one u x.at_).2
 else if x.kind=0 then (match spot u (one u x.at_).1 x.wh with|none=>.inr 9|some q=>.inl q)
 else if (one u x.to_).2≠0 then .inr (one u x.to_).2
 else match dY u (one u x.at_).1 (one u x.to_).1 x.wh with|none=>.inr 9|some q=>.inl q
theorem fG {i:Idd} {u:U} (hi:i∈u.ids):(U.way i u).isEmpty=false:=by
 have:=cq.2 hi
 cases h:U.way i u<;>simp_all
section
variable (G:Glob)
theorem f299 (u:U) (i:Idd) (f:Value) (m:Int) (O:u.Short) (hi:i∈u.ids) (N:eZ G Tryz.prog f [.int .i64 (fnd i u).kids.length] (.int .i64 m)):
  Pure G Tryz.prog 299 [.agg u.cs,.agg i.cs,.sc f] (.tup [.agg [.int .i64 i.act,.int .i64 i.item,.int .i64 i.n,.int .i64 m],.int .i64 0]):=by
 have F:=f44 G i u O
 unfold gV at F
 rw[fG hi,if_neg (by simp)]at F
 simp only[Idd.cs]at F
 rw[U.cs_eq (fnd i u)]at F
 refine Pure.w c299 λR M=>?_
 unfold s299 r299
 (repeat' (first|(with_reducible refine aa F ?_)|simp only[EVz,seval,↓reduceIte,EV6,EV7,D]|simp only[EVz,seval,↓reduceIte,EV6,EV7]|(with_reducible intro J I;(try(have E:=I;simp only[EVK]at E;first|(have D:=AI E D)|(have D:=E))))|(refine aI N ?_)))
 all_goals exact RQ M
theorem f300 (n:Int):Pure G Tryz.prog 300 [.int .i64 n] (.int .i64 0):=by
 refine Pure.w c300 λR D=>?_
 unfold s300 r300
 (repeat' (simp only[EVz,seval,↓reduceIte,EV6,EV7]))
 (all_goals((exact RET.eq D rfl)))
theorem f302 (n:Int):Pure G Tryz.prog 302 [.int .i64 n] (.int .i64 n):=by
 refine Pure.w c302 λR D=>?_
 unfold s302 r302
 (repeat' (simp only[EVz,seval,↓reduceIte,EV6,EV7]))
 (all_goals((exact RET.eq D rfl)))
theorem f298 (u:U) (i:Idd) (N:u.Short) (hi:i∈u.ids):Pure G Tryz.prog 298 [.agg u.cs,.agg i.cs] (dh (spot u i 0)):=by
 have I:=f299 G u i _ 0 N hi (f300 G _).v
 simp only[Idd.cs]at I
 refine Pure.w c298 λR M=>?_
 unfold s298 r298
 (repeat' (first|(with_reducible refine aa I ?_)|simp only[EVz,seval,↓reduceIte,EV6,EV7,F]|simp only[EVz,seval,↓reduceIte,EV6,EV7]|(with_reducible intro J D;(try(have E:=D;simp only[EVK]at E;(have F:=E))))))
 all_goals exact RQ M
theorem f301 (u:U) (i:Idd) (N:u.Short) (hi:i∈u.ids):Pure G Tryz.prog 301 [.agg u.cs,.agg i.cs] (dh (spot u i 1)):=by
 have I:=f299 G u i _ _ N hi (f302 G _).v
 simp only[Idd.cs]at I
 refine Pure.w c301 λR M=>?_
 unfold s301 r301
 (repeat' (first|(with_reducible refine aa I ?_)|simp only[EVz,seval,↓reduceIte,EV6,EV7,F]|simp only[EVz,seval,↓reduceIte,EV6,EV7]|(with_reducible intro J D;(try(have E:=D;simp only[EVK]at E;(have F:=E))))))
 all_goals exact RQ M
theorem f304 (u:U) (i:Idd) (b:Nat) (Y:b<=1) (X:u.Short) (V:u.ids.Nodup) (T:∀q,aF i u=some q->q.2.2<1000000):
  Pure G Tryz.prog 304 [.agg u.cs,.agg i.cs,.int .i64 b] (dh ((aF i u).map λq=>(q.1.id,q.2.2+b))):=by
 have I:=f131 G i u X V
 simp only[Idd.cs]at I
 unfold gW at I
 refine Pure.w c304 λR J=>?_
 unfold s304 r304
 rcases O:aF i u with _|⟨p,d,k⟩
 ·rw[O]at I J
  (repeat' (first|(with_reducible refine aa I ?_)|simp only[EVz,seval,↓reduceIte,EV6,EV7,D]|simp only[EVz,seval,↓reduceIte,EV6,EV7]|(with_reducible intro M F;(try(have E:=F;simp only[EVK]at E;first|(have D:=AI E D)|(have D:=E))))))
  all_goals exact RQ J
 ·have N:=T _ O
  rw[O]at I J
  simp only at N
  have e:IntKind.i64.wrap ((k:Int)+(b:Int))=((k+b:Nat):Int):=by rw[aA (by omega) (by omega)];omega
  (repeat' (first|(with_reducible refine aa I ?_)|simp only[EVz,seval,↓reduceIte,EV6,EV7,e,D]|simp only[EVz,seval,↓reduceIte,EV6,EV7,e]|(with_reducible intro M F;(try(have E:=F;simp only[EVK]at E;first|(have D:=AI E D)|(have D:=E))))))
  all_goals exact RQ J
theorem f303 (u:U) (i:Idd) (T:u.Short) (O:u.ids.Nodup) (N:∀q,aF i u=some q->q.2.2<1000000):Pure G Tryz.prog 303 [.agg u.cs,.agg i.cs] (dh (spot u i 2)):=by
 have F:=f304 G u i 1 (by omega) T O N
 simp only[Idd.cs]at F
 have e:spot u i 2=(aF i u).map λq=>(q.1.id,q.2.2+1):=by unfold spot;simp
 rw[e]
 obtain⟨z,V⟩:∃z,(aF i u).map (λq=>(q.1.id,q.2.2+1))=z:=⟨_,rfl⟩
 rw[V]at F ⊢
 refine Pure.w c303 λR J=>?_
 unfold s303 r303
 unfold dh at F J
 rcases z with _|⟨q,k⟩<;>(repeat' (first|(with_reducible refine aa F ?_)|simp only[EVz,seval,↓reduceIte,EV6,EV7,I]|simp only[EVz,seval,↓reduceIte,EV6,EV7]|(with_reducible intro M D;(try(have E:=D;simp only[EVK]at E;(have I:=E))))))
 all_goals exact RQ J
theorem f305 (u:U) (i:Idd) (T:u.Short) (O:u.ids.Nodup) (N:∀q,aF i u=some q->q.2.2<1000000):Pure G Tryz.prog 305 [.agg u.cs,.agg i.cs] (dh (spot u i 3)):=by
 have F:=f304 G u i 0 (by omega) T O N
 simp only[Idd.cs]at F
 have e:spot u i 3=(aF i u).map λq=>(q.1.id,q.2.2+0):=by unfold spot;simp
 rw[e]
 obtain⟨z,V⟩:∃z,(aF i u).map (λq=>(q.1.id,q.2.2+0))=z:=⟨_,rfl⟩
 rw[V]at F ⊢
 refine Pure.w c305 λR J=>?_
 unfold s305 r305
 unfold dh at F J
 rcases z with _|⟨q,k⟩<;>(repeat' (first|(with_reducible refine aa F ?_)|simp only[EVz,seval,↓reduceIte,EV6,EV7,I]|simp only[EVz,seval,↓reduceIte,EV6,EV7]|(with_reducible intro M D;(try(have E:=D;simp only[EVK]at E;(have I:=E))))))
 all_goals exact RQ J
theorem f273:Pure G Tryz.prog 273 [] (.agg [fnV 298,fnV 301,fnV 303,fnV 305]):=by
 refine Pure.w c273 λR I=>?_
 unfold s273 r273
 (repeat' (first|simp only[EVz,seval,↓reduceIte,EV6,EV7]|(with_reducible intro F D;(try(have E:=D;simp only[EVK]at E;(have J:=E))))|(refine oA (e:=245) (by kernel_rfl) (by kernel_rfl) (by kernel_rfl) ?_)))
 all_goals exact RQ I
def leadV (wh:Int):Value:=.func (.func (if wh=0 then 298 else if wh=1 then 301 else if wh=2 then 303 else 305)) #[] #[]
theorem lw (u:U) (i:Idd) (wh:Int) (J:0<=wh) (M:wh<=3) (D:u.Short) (hi:i∈u.ids) (F:u.ids.Nodup) (E:∀q,aF i u=some q->q.2.2<1000000):eZ G Tryz.prog (leadV wh) [.agg u.cs,.agg i.cs] (dh (spot u i wh)):=by
 have I:wh=0\/wh=1\/wh=2\/wh=3:=by omega
 rcases I with rfl|rfl|rfl|rfl
 ·exact(f298 G u i D hi).v
 ·exact(f301 G u i D hi).v
 ·exact(f303 G u i D F E).v
 ·exact(f305 G u i D F E).v
theorem nX (w:Nat) (h:w<4):[fnV 298,fnV 301,fnV 303,fnV 305].getD w .any= .sc (leadV w):=by
 have D:w=0\/w=1\/w=2\/w=3:=by omega
 rcases D with rfl|rfl|rfl|rfl<;>rfl
end
end Go.Av
namespace Go.Av
open Go Go.RowKit List
set_option linter.unusedSimpArgs false
set_option linter.unusedVariables false
theorem SubN.pull1 {x:Nat×AObj} {κ σ:Store}:SubN (x::(κ++σ)) (κ++x::σ):=SubN.perm perm_middle.symm
theorem SubN.pull2 {x y:Nat×AObj} {κ σ:Store}:SubN (x::y::(κ++σ)) (κ++x::y::σ):=SubN.trans (SubN.cons SubN.pull1 _) SubN.pull1
theorem SubN.pull2' {x y:Nat×AObj} {κ σ:Store}:SubN (y::x::(κ++σ)) (κ++x::y::σ):=SubN.trans (SubN.perm (List.Perm.swap _ _ _)) SubN.pull2
theorem SubN.push {x y:Nat×AObj} {l:Store}:SubN ((x::l)++[y]) (x::y::l):=by
 rw[cons_append]
 exact SubN.cons (SubN.perm (perm_append_comm (l₁:=l) (l₂:=[y]))) _
theorem SubN.pop {x y:Nat×AObj} {l:Store}:SubN (x::y::l) ((x::l)++[y]):=by
 rw[cons_append]
 exact SubN.cons (SubN.perm (perm_append_comm (l₁:=[y]) (l₂:=l))) _
theorem SubN.push' {x y:Nat×AObj} {κ σ:Store}:SubN ((x::(σ++κ))++[y]) (x::y::(κ++σ)):=
 SubN.trans (SubN.push) (SubN.cons (SubN.cons (SubN.perm perm_append_comm) _) _)
theorem SubN.pop' {x y:Nat×AObj} {κ σ:Store}:SubN (x::y::(κ++σ)) ((x::(σ++κ))++[y]):=
 SubN.trans (SubN.cons (SubN.cons (SubN.perm perm_append_comm) _) _) SubN.pop
section
variable {G:Glob} {P:Program}
theorem ag.fr {k:FuncId} {args:List AV} {σf:Store} {R R2:AV->Store->Prop} (σr:Store) (h:ag G P k args σf R)
  (Z:∀r σ',R r σ'->(σ'++σr:Store).keys.Nodup->∃E,SubN E (σ'++σr)/\R2 r E):ag G P k args (σf++σr) R2:=
 ⟨h.1,λρ w vs O N=>by
  rw[append_assoc]at O N
  refine(h.2 (σr++ρ) w vs O N).mono λe w' ⟨v,r,σ',Y,X,T,M,F⟩=>?_
  have D:Sat G ((σ'++σr)++ρ) w':=by rwa [append_assoc]
  obtain⟨E,J,V⟩:=Z r σ' X D.nodup_left
  rw[←append_assoc]at F
  exact⟨v,r,E,Y,V,D.subN J,(M.frame (λq I=>I)).trans (Ev.of_sub J.1 w'),Rep.sub (λq I=>by
   rcases mem_append.1 I with I|I
   ·exact mem_append.2 (.inl (J.1 q I))
   ·exact mem_append.2 (.inr I)) F⟩⟩
theorem cd.fr {f:Value} {args:List AV} {σf:Store} {R R2:AV->Store->Prop} (σr:Store) (h:cd G P f args σf R)
  (E:∀r σ',R r σ'->(σ'++σr:Store).keys.Nodup->∃D,SubN D (σ'++σr)/\R2 r D):cd G P f args (σf++σr) R2:=by
 obtain⟨k,a,b,e,h⟩:=h
 exact⟨k,a,b,e,h.fr σr E⟩
theorem aT {f:Value} {args D:List AV} {σ:Store} {K:AV->Store->Prop} {t:Tag K} {R:AV->Store->Prop} (σf σr:Store)
  (h:cd G P f D σf R) (F:ax args D) (J:SubN (σf++σr) σ) (I:∀r σ',R r σ'->(σ'++σr:Store).keys.Nodup->∃E,SubN E (σ'++σr)/\K r E):CALL G P f args σ K t:=
 aZ (σf++σr) [] (h.fr σr I) F (by rwa [append_nil]) (λr σ' h=>by rwa [append_nil])
end
end Go.Av
namespace Go.Av
open Go Go.RowKit Go.Proofs List
set_option linter.unusedSimpArgs false
set_option linter.unusedVariables false
section
variable {G:Glob} {P:Program}
theorem keys_uniq {σ:Store} (h:σ.keys.Nodup) {b:Nat} {x y:AObj} (D:(b,x)∈σ) (E:(b,y)∈σ):x=y:=by
 induction σ with
 |nil=>cases D
 |cons p σ ih=>
  simp only[Store.keys,map_cons,nodup_cons]at h
  rcases mem_cons.1 D with hx'|hx'<;>rcases mem_cons.1 E with hy'|hy'
  ·rw[hx'.symm]at hy';injection hy' with _ e;exact e.symm
  ·exact absurd (mem_map.2 ⟨_,hy',by rw[←hx']⟩) h.1
  ·exact absurd (mem_map.2 ⟨_,hx',by rw[←hy']⟩) h.1
  ·exact ih h.2 hx' hy'
theorem ag.keepIn {k:FuncId} {args:List AV} {σ0 σ:Store} {v:AV} (h:ag G P k args σ0 λr σ'=>r=v/\σ'=σ0) (hs:Sub σ0 σ) (hn:σ.keys.Nodup->σ0.keys.Nodup):ag G P k args σ λr σ'=>r=v/\σ'=σ:=
 ⟨h.1,λρ w vs hS hA=>by
  have E:=hS.nodup_left
  obtain⟨σr,V⟩:∃σr,σr=σ.filter λp=>decide (p.1∉σ0.keys):=⟨_,rfl⟩
  have I:Sub (σ0++σr) σ:=λq D=>by
   rcases mem_append.1 D with D|D
   ·exact hs q D
   ·rw[V]at D;exact(mem_filter.1 D).1
  have T:Sub σ (σ0++σr):=λq D=>by
   by_cases hk:q.1∈σ0.keys
   ·obtain⟨p,O,e⟩:=mem_map.1 hk
    have:p=q:=Prod.ext e (keys_uniq E (b:=q.1) (by have:=hs p O;rw[←e];exact this) D)
    exact mem_append.2 (.inl (this ▸ O))
   ·exact mem_append.2 (.inr (by rw[V];exact mem_filter.2 ⟨D,by simpa using hk⟩))
  have N:(σ0++σr:Store).keys.Nodup:=by
   rw[az]
   refine nodup_append.2 ⟨hn E,?_,λa ha b hb e=>?_⟩
   ·have:List.Sublist (Store.keys σr) (Store.keys σ):=by rw[V];exact List.Sublist.map _ filter_sublist
    exact this.nodup E
   ·obtain⟨p,O,rfl⟩:=mem_map.1 hb
    rw[V]at O
    have:=(mem_filter.1 O).2
    simp only[decide_not,Bool.not_eq_true',decide_eq_false_iff_not]at this
    exact this (e ▸ ha)
  have s1:SubN (σ0++σr) σ:=⟨I,λ_=>N⟩
  have s2:SubN σ (σ0++σr):=⟨T,λ_=>E⟩
  have M:=hS.subN s1
  rw[append_assoc]at M
  have X:RepL (σ0++(σr++ρ)) w args vs.toList:=RepL.sub (λq D=>by
   rw[←append_assoc]at D
   rcases mem_append.1 D with D|D
   ·exact mem_append.2 (.inl (I q D))
   ·exact mem_append.2 (.inr D)) hA
  refine(h.2 (σr++ρ) w vs M X).mono λe w' ⟨v',r,σ',he,⟨hv,Z⟩,ac,Y,F⟩=>?_
  subst Z hv
  have J:Sat G ((σ'++σr)++ρ) w':=by rwa [append_assoc]
  rw[←append_assoc]at F
  refine⟨v',r,σ,he,⟨rfl,rfl⟩,J.subN s2,?_,Rep.sub (λq D=>by
   rcases mem_append.1 D with D|D
   ·exact mem_append.2 (.inl (s2.1 q D))
   ·exact mem_append.2 (.inr D)) F⟩
  have e1:Ev σ w (σ'++σr) w:=Ev.of_sub s1.1 w
  have e2:Ev (σ'++σr) w (σ'++σr) w':=Y.frame (λq D=>D)
  exact e1.trans (e2.trans (Ev.of_sub s2.1 w'))⟩
theorem cd.keepIn {f:Value} {args:List AV} {σ0 σ:Store} {v:AV} (h:cd G P f args σ0 λr σ'=>r=v/\σ'=σ0) (D:SubN σ0 σ):cd G P f args σ λr σ'=>r=v/\σ'=σ:=by
 obtain⟨k,a,b,e,h⟩:=h
 exact⟨k,a,b,e,h.keepIn D.1 D.2⟩
theorem ag.freezeKT {k:FuncId} {args ys:List AV} {x:AV} {σ:Store} {R1:Store->Prop} (hx:x.flat=true) (h:ag G P k args σ (λr σ'=>∃xs κ D,r= .tup [.agg xs,x]/\FrzL κ xs ys/\σ'=κ++D/\R1 D)):ag G P k args σ (λr σ'=>r= .tup [.agg ys,x]/\R1 σ'):=
 ⟨h.1,λρ w vs hS hA=>(h.2 ρ w vs hS hA).mono λe w' ⟨v,r,σ',he,⟨xs,κ,D,hr,hF,O,h1⟩,F,J,E⟩=>by
  subst hr O
  rw[append_assoc]at F E
  have I:Sub D (κ++D):=λq hq=>mem_append.2 (.inr hq)
  refine⟨v,.tup [.agg ys,x],D,he,⟨rfl,h1⟩,?_,J.trans (Ev.of_sub I _),?_⟩
  ·have:Sat G ((κ++D)++ρ) w':=by rwa [append_assoc]
   exact this.subN SubN.appR
  ·simp only[Rep,RepL]at E ⊢
   obtain⟨X,rfl,u1,T,Y,M,u2,V,Z,N,e3⟩:=E
   obtain⟨ws,g1,g2,g3⟩:=M
   exact⟨X,rfl,u1,T,Y,⟨ws,g1,g2,FrzL.rep F hF g3⟩,u2,V,Z,AV.flat_rep hx N,e3⟩⟩
end
theorem aM {σ:Store}:Sub [] σ:=λ_ h=>by cases h
theorem aD {a:Nat×AObj} {σ0 σ:Store} (E:a∈σ) (h:Sub σ0 σ):Sub (a::σ0) σ:=λq D=>by
 rcases mem_cons.1 D with rfl|D
 ·exact E
 ·exact h q D
def iV (G:Glob) (f:Value) (g:U->U) (σ:Store) (x:U):Prop:=cd G Tryz.prog f [.agg x.cs] σ λr σ'=>r= .agg (g x).cs/\σ'=σ
theorem oh {κ:Store}:∀xs:List AV,FrzL κ xs xs
 |[]=>trivial
 |x::xs=>⟨.inl rfl,oh xs⟩
theorem ce {G:Glob} {P:Program} {f:Value} {args:List AV} {σ0 σ:Store} {K:AV->Store->Prop} {t:Tag K} {v:AV}
  (h:cd G P f args σ0 λr σ'=>r=v/\σ'=σ0) (E:SubN σ0 σ) (D:K v σ):CALL G P f args σ K t:=
 aZ σ [] (h.keepIn E) (ax.rfl' _) (by rw[append_nil];exact SubN.refl _) (by rintro _ _ ⟨rfl,rfl⟩;rw[append_nil];exact D)
def hasP (i:Idd) (u:U):Bool:=decide (i∈u.ids)
theorem has_way (i:Idd) (u:U):(U.way i u).isEmpty= !hasP i u:=by
 unfold hasP
 by_cases h:i∈u.ids
 ·rw[fG h,decide_eq_true h];rfl
 ·rw[(cO u).2 h,decide_eq_false h];rfl
def cc:List (Value×Bool×Int)->Int
 |[]=>0
 |x::l=>if x.2.1 then x.2.2 else cc l
def ckRow (x:Value×Bool×Int):List AV:=[.sc x.1,.int .i64 x.2.2]
section
variable (G:Glob)
theorem f86p (l:List Wd) (D:l.length<1000000):Pure G Tryz.prog 86 [.lst 4 (l.map Wd.cs)] (.lst 4 (l.map Wd.cs)):=
 ag.freezeL (R1:=λσ=>σ=[]) (ag.mono (f86 G l D) λr σ' h=>⟨σ',[],h,by simp,rfl⟩)
theorem f113 (i:Idd) (u:U) (N:u.Short):Pure G Tryz.prog 113 [.agg u.cs,.agg i.cs] (.bool (hasP i u)):=by
 have F:=f44 G i u N
 unfold gV at F
 rw[has_way]at F
 simp only[Idd.cs]at F
 refine Pure.w c113 λR I=>?_
 unfold s113 r113
 cases h:hasP i u with
 |false=>
  rw[h]at F I
  simp only[Bool.not_false,if_true]at F
  (repeat' (first|(with_reducible refine aa F ?_)|simp only[EVz,seval,↓reduceIte,EV6,EV7]|(with_reducible intro J D;(try(have E:=D;simp only[EVK]at E;(have M:=E))))|fail))
  all_goals exact RQ I
 |true=>
  rw[h]at F I
  simp only[Bool.not_true,Bool.false_eq_true,if_false]at F
  (repeat' (first|(with_reducible refine aa F ?_)|simp only[EVz,seval,↓reduceIte,EV6,EV7]|(with_reducible intro J D;(try(have E:=D;simp only[EVK]at E;(have M:=E))))|fail))
  all_goals exact RQ I
theorem f124 (i:Idd) (u:U) (F:u.Short):Pure G Tryz.prog 124 [.agg u.cs,.agg i.cs] (.int .i64 ((anc i u).length:Nat)):=by
 have D:=f214 G i u F.1
 simp only[Idd.cs]at D
 refine Pure.w c124 λR E=>?_
 unfold s124 r124
 (repeat' (first|(with_reducible refine aa D ?_)|simp only[EVz,seval,↓reduceIte,EV6,EV7]|fail))
 all_goals exact E _ _ (.inl (.inl (by simp)))
theorem f216 (D E:Nat) (k:Int) (s:List UInt8) (x:U):
  ag G Tryz.prog 216 [.agg x.cs,.sc (.pointer (some ⟨D,0,none⟩)),.sc (.pointer (some ⟨E,0,none⟩))] [(D,.cells 3 [.int .i64 k]),(E,.cells 9 [.str s])] λr σ'=>r= .bool (decide (x.kind=k)&&decide (x.label=s))/\σ'=[(D,.cells 3 [.int .i64 k]),(E,.cells 9 [.str s])]:=by
 refine ag.wn c216 λF=>?_
 have I:¬D=E:=by simp[Store.keys]at F;exact F
 have J:¬E=D:=λe=>I e.symm
 unfold s216 r216
 rw[U.cs_eq x]
 (repeat' (first|(with_reducible (refine ai (λh=>?_) (λh=>?_))<;>(try simp only[DZ]at h))|simp only[EVz,seval,↓reduceIte,EV6,EV7,I,J]|fail))
 all_goals(refine RET.mk (SubN.refl _) ⟨?_,rfl⟩;simp[h])
theorem f128 (l:List U) (k:Int) (s:List UInt8) (T:l.length<1000000):Pure G Tryz.prog 128 [.lst 8 (l.map U.cs),.int .i64 k,.str s] (.bool (taken l k s)):=by
 refine Pure.w c128 λR M=>?_
 unfold s128 r128
 unfold taken at M
 have O:=λI J=>f215k G [(I,.cells 3 [.int .i64 k]),(J,.cells 9 [.str s])] (.func (.func 216) #[] #[.pointer (some ⟨I,0,none⟩),.pointer (some ⟨J,0,none⟩)]) (λx=>decide (x.kind=k)&&decide (x.label=s)) l (by omega)
   (λy V=>⟨_,_,_,rfl,f216 G I J k s y⟩)
 (repeat' (first|simp only[EVz,seval,↓reduceIte,EV6,EV7,D]|simp only[EVz,seval,↓reduceIte,EV6,EV7]|(with_reducible intro N F;(try(have E:=F;simp only[EVK]at E;first|(have D:=AI E D)|(have D:=E))))|(refine ce (O _ _).v (SubN.perm (List.Perm.swap _ _ _)) ?_)|fail))
 all_goals exact RQ M
theorem f199 (i:Idd):Pure G Tryz.prog 199 [.agg i.cs] (.bool (decide (i=zId))):=by
 refine Pure.w c199 λR D=>?_
 unfold s199 r199
 (repeat' (simp only[EVz,seval,↓reduceIte,EV6,EV7,pu]))
 all_goals exact RQ D
end
section
variable (G:Glob) (hG:GOk G)
include hG
theorem f111 (u:U) (M:u.Short):Pure G Tryz.prog 111 [.agg u.cs] (.bool (stP u)):=by
 have I:=f149 G u M.1
 have F:=f200 G hG u M
 have N:u.ids.length<100000000:=by unfold U.ids;rw[length_map];have:=M.1.2;omega
 have V:1<=u.ids.length:=by rw[U.ids_eq];simp
 obtain⟨l,D⟩:∃l,(if u.kind=0 then u.ids.drop 1 else u.ids)=l:=⟨_,rfl⟩
 have Y:l.length<100000000:=by rw[←D];split;(rw[length_drop];omega);exact N
 have T:=f150k G [] (.func (.func 199) #[] #[]) (λi=>decide (i=zId)) l (by omega)
   (λy hy=>(f199 G y).v)
 refine Pure.w c111 λR E=>?_
 unfold s111 r111
 unfold stP at E
 rw[D]at E
 obtain⟨t,Z⟩:∃t,pq u=t:=⟨_,rfl⟩
 rw[Z]at F E
 rw[U.cs_eq u]at I F ⊢
 by_cases O:u.kind=0
 ·rw[if_pos O]at D
  have X:(u.ids.map Idd.cs).drop 1=l.map Idd.cs:=by rw[←D,map_drop]
  have J:List.take u.ids.length (u.ids.map Idd.cs)=u.ids.map Idd.cs:=take_of_length_le (by simp)
  (repeat' (first|(with_reducible (first|refine ab (λh=>?_) (λh=>?_)|refine ai (λh=>?_) (λh=>?_))<;>(try simp only[DZ]at h))|(with_reducible first|refine AI (by omega) ?_|refine aa I ?_|refine aa F ?_)|simp only[EVz,seval,↓reduceIte,EV6,EV7,J,X,length_map]|(refine ce T.v (SubN.nil _) ?_)|(exfalso;omega)|fail))
  all_goals exact E _ _ (.inl (.inl (by((simp[*];done)))))
 ·rw[if_neg O]at D
  subst D
  (repeat' (first|(with_reducible (first|refine ab (λh=>?_) (λh=>?_)|refine ai (λh=>?_) (λh=>?_))<;>(try simp only[DZ]at h))|(with_reducible first|refine AI (by omega) ?_|refine aa I ?_|refine aa F ?_)|simp only[EVz,seval,↓reduceIte,EV6,EV7]|(refine ce T.v (SubN.nil _) ?_)|(exfalso;omega)|fail))
  all_goals exact E _ _ (.inl (.inl (by((simp[*];done)))))
end
end Go.Av
