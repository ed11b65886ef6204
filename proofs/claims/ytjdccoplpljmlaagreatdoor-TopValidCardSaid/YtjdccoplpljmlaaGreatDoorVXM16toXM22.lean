/-
  ENACT, M16: a tree stamped by the program's stamper.
-/
import Derived.Test.YtjdccoplpljmlaaGreatDoorVXM18toXM14
import Derived.Test.YtjdccoplpljmlaaGreatDoorVXM15toXM17
import Derived.Test.YtjdccoplpljmlaaGreatDoorVXL35toXM9
import Derived.Test.YtjdccoplpljmlaaGreatDoorVXY15toXAv36
namespace Go.Av
open Go Go.RowKit Go.Proofs List
set_option linter.unusedSimpArgs false
set_option linter.unusedVariables false
section
variable (G:Glob)
set_option maxHeartbeats 2000000 in
theorem f325 (bs:Nat) (a b:Int):∀(u:U),u.Short->∀n m:Int,0<=n->0<=m->n+1+u.flat.length<=100000000000->m+u.wt<=100000000000->
  aj G Tryz.prog 325 [.sc (.pointer (some ⟨bs,0,none⟩)),.agg u.cs] [(bs,.cells 346 (stp4 a b n m))] λr σ'=>r= .agg (U.stamp a b u (n+1) m).1.cs/\
   σ'=[(bs,.cells 346 (stp4 a b ((U.stamp a b u (n+1) m).2.1-1) (U.stamp a b u (n+1) m).2.2))]:=by
 refine U.ind λu ih hs n m e0 cp d0 cw=>?_
 have dd:=hs.1.kids
 have hu:=hs.2 u u.flat_self
 rw[U.flat_eq,length_cons]at d0
 rw[U.wt_eq]at cw
 have bx:=f364 G bs u.head a b (n+1) m hu.2.1 cp (by omega)
 have ch:=f364 G bs u.words a b (n+1) (m+u.head.length) hu.2.2.1 (by omega) (by omega)
 have w1:IntKind.i64.wrap (n+1)=n+1:=av (by omega) (by omega)
 obtain⟨w,hw⟩:∃w,U.stamp a b u (n+1) m=w:=⟨_,rfl⟩
 rw[hw]
 refine aj.freezeK (R1:=λσ'=>σ'=[(bs,.cells 346 (stp4 a b (w.2.1-1) w.2.2))]) ?_
 refine aj.w c325 ?_
 unfold s325 r325
 rw[U.stamp_eq]at hw
 have V:0+u.kids.length*8<=(List.replicate u.kids.length zU).flatten.length:=by rw[bW];simp[zU]
 have ac:(u.kids.map U.cs).flatten.length=u.kids.length*8:=by rw[ap _ (iA _),length_map]
 have bk:splice (List.replicate u.kids.length zU).flatten 0 ((u.kids.map U.cs).take u.kids.length).flatten=(u.kids.map U.cs).flatten:=by
  rw[take_of_length_le (by simp),aR _ _ _ (by rw[ac];exact V),drop_eq_nil_of_le (by rw[ac,bW];simp[zU])]
  simp
 obtain⟨M,bd⟩:∃M,n+1+1=M:=⟨_,rfl⟩
 obtain⟨J,bb⟩:∃J,m+(u.head.length:Int)+(u.words.length:Int)=J:=⟨_,rfl⟩
 rw[bd,bb]at hw
 obtain⟨S,hS⟩:∃S:Nat->List U×Int×Int,S=λi=>U.stamps a b (u.kids.take i) M J:=⟨_,rfl⟩
 have Z:∀i,(S i).2.1=M+(U.flats (u.kids.take i)).length/\(S i).2.2=J+U.wts (u.kids.take i)/\(S i).1.length=(u.kids.take i).length:=λi=>by rw[hS];exact jm a b _ M J
 obtain⟨L,hL⟩:∃L:Nat->List (List AV),L=λi=>((S i).1++u.kids.drop i).map U.cs:=⟨_,rfl⟩
 have ah:S 0=([],M,J):=by rw[hS];simp only[take_zero,U.stamps_nil]
 have bo:(L 0).flatten=(u.kids.map U.cs).flatten:=by rw[hL];simp only[ah,nil_append,drop_zero]
 have bm:stp4 a b ((S 0).2.1-1) (S 0).2.2=stp4 a b (n+1) (m+(u.head.length:Int)+(u.words.length:Int)):=by
  rw[ah]
  show stp4 a b (M-1) J=_
  rw[bb,←bd]
  congr 1
  omega
 have O:∀i,∀r∈L i,r.length=8:=λi=>by rw[hL];exact iA _
 have N:∀i,i<=u.kids.length->(L i).length=u.kids.length:=λi hi=>by
  rw[hL]
  simp only[length_map,length_append,length_drop,(Z i).2.2,length_take]
  omega
 have ag:∀i,i<=u.kids.length->(L i).flatten.length=u.kids.length*8:=λi hi=>by rw[ap _ (O i),N i hi]
 rw[U.cs_eq u]
 (repeat' (first|simp only[EVz,seval,↓reduceIte,EV6,EV7,w1,E]|simp only[EVz,seval,↓reduceIte,EV6,EV7,w1]|(with_reducible intro F an;(try(have ad:=an;simp only[EVK]at ad;first|(have E:=AI ad E)|(have E:=ad))))|(with_reducible first|refine ae ?_ ?_|refine af ?_)|(refine ay [(bs,_)] [(_,_),(_,_)] bx.v (aA.rfl' _) (SubN.perm (perm_append_comm (l₁:=[_]) (l₂:=[_,_]))) (λr1 d1 h1 E=>?_))|(obtain⟨rfl,rfl⟩:=h1)|(simp[Store.keys]at E)|(refine ay [(bs,_)] [(_,_),(_,_)] ch.v (aA.rfl' _) (SubN.refl _) (λr2 e2 h1 E=>?_))|(refine iI (elem:=29) (c:=u.kids.length) (sz:=8) (bytes:=120) (zr:=zU) (z:=.agg #[.int .i64 0,.int .i64 0,.int .i64 0,.int .i64 0,.string .empty,.slice none 0 0,.slice none 0 0,.slice none 0 0]) rfl (by kernel_rfl) (by kernel_rfl) rfl (by omega) (by decide) (by intro τ w;simp[zU,RepL,Rep,Value.cells];rfl) (by omega) (by omega) ?_)|(refine li (elem:=29) (sz:=8) (ys:=u.kids.map U.cs) u.kids.length (u.kids.map U.cs).flatten (by kernel_rfl) (by kernel_rfl) rfl (if_pos rfl) (.inl ⟨rfl,rfl⟩) (by simp) V bk ?_)))
 all_goals
  rename_i X _ _ _ Y _ _ _ _ _
  have q1:¬bs=F:=λe=>E.1.1 e.symm
  have q2:¬Y=F:=λe=>E.1.2.1 e.symm
  have q3:¬X=F:=λe=>E.1.2.2 e.symm
  refine ax u.kids (λi r (c:Unit)=>True) (λi c=>[(0,.sc (.pointer (some ⟨bs,0,none⟩))),(3,.sc (.pointer (some ⟨X,0,none⟩))),(4,.sc (.pointer (some ⟨Y,0,none⟩))),(5,.sc (.slice (some ⟨F,0,none⟩) u.kids.length u.kids.length)),(47,.int .i64 u.kids.length),(48,.int .i64 i)])
   (λi c=>[(F,.cells 29 (L i).flatten),(bs,.cells 346 (stp4 a b ((S i).2.1-1) (S i).2.2)),(Y,.cells 29 zU),(X,.cells 29 [.int .i64 a,.int .i64 b,.int .i64 (n+1),.int .i64 u.kind,.str u.label,.lst 4 ((aW a b (u.head.map Wd.text) m).map Wd.cs),.lst 4 ((aW a b (u.words.map Wd.text) (m+u.head.length)).map Wd.cs),.lst 8 (u.kids.map U.cs)])]) () trivial (by rw[bo,bm];exact Weak.rfl' _ _) (by omega) (λi k r c _ I hw=>?_) (λc _ hn=>?_)
  ·obtain⟨s1,s2,s3⟩:=Z i
   obtain⟨t1,t2,t3⟩:=Z (i+1)
   have T:=I.lt
   have ac:(U.flats (u.kids.take (i+1))).length<=(U.flats u.kids).length:=by
    conv=>rhs;rw[←take_append_drop (i+1) u.kids,cG,length_append]
    omega
   have e1:U.wts (u.kids.take (i+1))<=U.wts u.kids:=by
    conv=>rhs;rw[←take_append_drop (i+1) u.kids,U.wts_app]
    omega
   have d2:(U.flats (u.kids.take (i+1))).length=(U.flats (u.kids.take i)).length+k.flat.length:=by rw[I.take,cG,aG,bl];simp
   have dc:U.wts (u.kids.take (i+1))=U.wts (u.kids.take i)+k.wt:=by rw[I.take,U.wts_app,U.wts_cons,U.wts_nil];simp
   have aw:=ih k I.mem (hs.kid I.mem) ((S i).2.1-1) (S i).2.2 (by omega) (by omega) (by omega) (by omega)
   rw[show(S i).2.1-1+1=(S i).2.1 by omega]at aw
   have al:S (i+1)=((S i).1++[(U.stamp a b k (S i).2.1 (S i).2.2).1],(U.stamp a b k (S i).2.1 (S i).2.2).2):=by
    simp only[hS]
    rw[I.take,kv]
   have cl:(L i)[i]? =some k.cs:=by
    rw[hL]
    simp only[getElem?_map]
    rw[getElem?_append_right (by rw[s3,length_take];omega),s3,length_take,Nat.min_eq_left (by omega),Nat.sub_self,getElem?_drop,Nat.add_zero,getElem?_eq_getElem T,←I.get k]
    simp[T]
   have cm:((L i).flatten.drop (0+i*8)).take 8=k.cs:=by simpa using ju (pad:=[]) (O i) cl
   have d3:8<=((L i).flatten.drop (0+i*8)).length:=by rw[length_drop,ag i (by omega)];omega
   have bw:L (i+1)=(L i).set i (U.stamp a b k (S i).2.1 (S i).2.2).1.cs:=by
    have h3:u.kids.drop i=k::u.kids.drop (i+1):=by
     rw[drop_eq_getElem_cons T]
     congr 1
     simpa[T]using I.get k
    have bn:(S i).1.length=i:=by rw[s3,length_take];omega
    rw[hL]
    simp only[al]
    rw[h3]
    simp only[map_append,map_cons,map_nil]
    rw[set_append_right _ _ (by simp[bn])]
    simp[bn]
   have bh:splice (L i).flatten (0+i*8) (U.stamp a b k (S i).2.1 (S i).2.2).1.cs=(L (i+1)).flatten:=by
    rw[bw]
    rw[Nat.zero_add]
    simpa using jv (pad:=[]) (O i) (by rw[N i (by omega)];omega) (U.cs_len _)
   have ds:=ag i (by omega)
   (repeat' (first|(with_reducible refine AI (by omega) ?_)|simp only[EVz,seval,↓reduceIte,EV6,EV7,I.yes,I.le0,I.lt',I.get,hw,cm,q1,q2,q3,bh,E]|(refine ay [(bs,_)] [(F,_),(Y,_),(X,_)] aw.v (aA.rfl' _) (SubN.perm (List.Perm.swap _ _ _)) (λr1 d1 h1 d4=>?_))|(obtain⟨rfl,rfl⟩:=h1)))
   all_goals
    refine am I () trivial ?_
    rw[al]
    exact Weak.sub (SubN.perm (List.Perm.swap _ _ _))
  ·have be:S u.kids.length=U.stamps a b u.kids M J:=by simp only[hS];rw[take_length]
   have bp:L u.kids.length=(U.stamps a b u.kids M J).1.map U.cs:=by rw[hL];simp only[be,drop_length,append_nil]
   have dl:(U.stamps a b u.kids M J).1.length=u.kids.length:=(jm a b u.kids M J).2.2
   have p1:¬F=Y:=E.1.2.1
   have p2:¬F=X:=E.1.2.2
   have p3:¬bs=Y:=E.2.1.1
   have p4:¬bs=X:=E.2.1.2
   have p5:¬Y=X:=E.2.2
   (repeat' (simp only[EVz,seval,↓reduceIte,EV6,EV7,hn,q1,q2,q3,p1,p2,p3,p4,p5,E]))
   refine RET.mk' (σ':=[(F,.cells 29 (L u.kids.length).flatten)]++[(bs,.cells 346 (stp4 a b ((S u.kids.length).2.1-1) (S u.kids.length).2.2))]) (SubN.left (σ:=[_,_]) (τ:=[_,_])) ⟨_,_,_,rfl,?_,rfl,?_⟩
   ·rw[←hw,U.cs_eq]
    exact⟨.inl rfl,.inl rfl,.inl rfl,.inl rfl,.inl rfl,.inl rfl,.inl rfl,.inr ⟨29,8,L u.kids.length,_,aO.mk0 (N _ (Nat.le_refl _)).symm (by rw[N _ (Nat.le_refl _)];unfold maxLen;omega) (O _),λq hq=>hq,by rw[bp]⟩,trivial⟩
   ·rw[be,←hw]
theorem f271 (u:U) (a b:Int) (J:u.Short) (X:u.wt<=90000000000):Pure G Tryz.prog 271 [.agg u.cs,.int .i64 a,.int .i64 b] (.agg (cI u a b).cs):=by
 have V:=J.1.2
 refine Pure.w c271 λR O=>?_
 unfold s271 r271
 (repeat' (first|simp only[EVz,seval,↓reduceIte,EV6,EV7,E]|simp only[EVz,seval,↓reduceIte,EV6,EV7]|(with_reducible intro M I;(try(have F:=I;simp only[EVK]at F;first|(have E:=AI F E)|(have E:=F))))|(refine ay [(_,_)] [(_,_)] (f325 G _ a b u J 0 0 (by omega) (by omega) (by omega) (by omega)).v (aA.rfl' _) (SubN.refl _) (λr1 T N E=>?_))|(obtain⟨rfl,rfl⟩:=N)|(simp[Store.keys]at E)))
 exact RET.eq O rfl
end
section
variable (G:Glob)
theorem f329k (σ:Store) (f:Value) (p:Idd->Bool) (l:List Idd) (O:l.length<9000000000000000000) (J:∀x∈l,cn G Tryz.prog f [.agg x.cs] σ λr σ'=>r= .bool (p x)/\σ'=σ):
  aj G Tryz.prog 329 [.lst 3 (l.map Idd.cs),.sc f] σ λr σ'=>r= .int .i64 (idxF p 0 l)/\σ'=σ:=by
 refine aj.wk c329 λR I=>?_
 unfold s329 r329
 simp only[Idd.cs]at J
 (repeat' (first|(with_reducible (refine ab (λh=>?_) (λh=>?_))<;>(try simp only[DZ]at h))|simp only[EVz,seval,↓reduceIte,EV6,EV7,F.yes,F.le0,F.lt',F.get,F.row,N]|simp only[EVz,seval,↓reduceIte,EV6,EV7,M]|simp only[EVz,seval,↓reduceIte,EV6,EV7]|(refine am F () ?_ (Weak.rfl' _ _))|(refine ax l (λi r (c:Unit)=>idxF p 0 l=idxF p i r) (λi c=>[(0,.lst 3 (l.map Idd.cs)),(1,.sc f),(7,.int .i64 l.length),(8,.int .i64 i)]) (λ_ _=>σ) () rfl (Weak.rfl' _ _) (by omega) (λi x r c E F N=>?_) (λc E M=>?_))|(refine cU (J _ F.mem) ?_)))
 ·refine I _ _ (.inl (.inl ?_)) (SubN.refl _)
  rw[E,idxF,if_pos h]
 ·rw[E,idxF,h];rfl
 ·refine I _ _ (.inl (.inl ?_)) (SubN.refl _)
  rw[E];rfl
theorem f274k (σ:Store) (f:Value) (p:Idd->Bool) (l:List Idd) (J:l.length<9000000000000000000) (I:∀x∈l,cn G Tryz.prog f [.agg x.cs] σ λr σ'=>r= .bool (p x)/\σ'=σ):
  aj G Tryz.prog 274 [.lst 3 (l.map Idd.cs),.sc f] σ λr σ'=>r= .bool (l.any p)/\σ'=σ:=by
 refine aj.wk c274 λR F=>?_
 unfold s274 r274
 have E:=f329k G σ f p l J I
 (repeat' (first|simp only[EVz,seval,↓reduceIte,EV6,EV7]|(refine cU E.v ?_)))
 exact F _ _ (.inl (.inl (congrArg AV.bool (dW p l 0)))) (SubN.refl _)
theorem f143 (l:List Idd) (k:Idd) (N:l.length<9000000000000000000):Pure G Tryz.prog 143 [.lst 3 (l.map Idd.cs),.agg k.cs] (.int .i64 (idxF (λx=>decide (k=x)) 0 l)):=by
 refine Pure.w c143 λR I=>?_
 unfold s143 r143
 (repeat' (first|(with_reducible (refine ab (λh=>?_) (λh=>?_))<;>(try simp only[DZ]at h))|simp only[EVz,seval,↓reduceIte,EV6,EV7,idd_eq,F.yes,F.le0,F.lt',F.get,F.row,M]|simp only[EVz,seval,↓reduceIte,EV6,EV7,idd_eq,J]|simp only[EVz,seval,↓reduceIte,EV6,EV7,idd_eq]|(refine am F () ?_ (Weak.rfl' _ _))|(refine ax (l) (λi r (c:Unit)=>idxF (λx=>decide (k=x)) 0 l=idxF (λx=>decide (k=x)) i r) (λi c=>[(0,.lst 3 (l.map Idd.cs)),(3,.ref k.cs),(7,.int .i64 l.length),(8,.int .i64 i)]) (λ_ _=>[]) () (by rfl) (Weak.rfl' _ _) (by omega) (λi x r c E F M=>?_) (λc E J=>?_))))
 ·refine RET.eq I ?_
  rw[E,idxF,if_pos (decide_eq_true h)]
 ·rw[E,idxF,if_neg (by simpa using h)]
 ·refine RET.eq I ?_
  rw[E];rfl
theorem f109 (l:List Idd) (k:Idd) (J:l.length<9000000000000000000):Pure G Tryz.prog 109 [.lst 3 (l.map Idd.cs),.agg k.cs] (.bool (decide (k∈l))):=by
 have E:=f143 G l k J
 simp only[Idd.cs]at E
 refine Pure.w c109 λR F=>?_
 unfold s109 r109
 (repeat' (first|(with_reducible refine aa E ?_)|simp only[EVz,seval,↓reduceIte,EV6,EV7]))
 refine RET.eq F (congrArg AV.bool ?_)
 rw[dW,Bool.eq_iff_iff,any_eq_true,decide_eq_true_eq]
 constructor
 ·rintro⟨x,M,I⟩;rw[of_decide_eq_true I];exact M
 ·intro h;exact⟨k,h,decide_eq_true rfl⟩
theorem f275 (b:Nat) (l:List Idd) (k:Idd) (I:l.length<9000000000000000000):aj G Tryz.prog 275 [.agg k.cs,.sc (.pointer (some ⟨b,0,none⟩))] [(b,.cells 32 [.lst 3 (l.map Idd.cs)])] λr σ'=>r= .bool (decide (k∈l))/\σ'=[(b,.cells 32 [.lst 3 (l.map Idd.cs)])]:=by
 have E:=f109 G l k I
 simp only[Idd.cs]at E
 refine aj.wk c275 λR F=>?_
 unfold s275 r275
 (repeat' (first|(with_reducible refine aa E ?_)|simp only[EVz,seval,↓reduceIte,EV6,EV7]))
 exact F _ _ (AVle.rfl' _) (SubN.refl _)
theorem f327 (b:Nat) (x k:U):aj G Tryz.prog 327 [.agg k.cs,.sc (.pointer (some ⟨b,0,none⟩))] [(b,.cells 29 x.cs)] λr σ'=>r= .bool (decide (k.kind=x.kind)&&decide (k.label=x.label))/\σ'=[(b,.cells 29 x.cs)]:=by
 refine aj.wk c327 λR E=>?_
 unfold s327 r327
 rw[U.cs_eq x]at E ⊢
 (repeat' (first|(with_reducible (refine ai (λh=>?_) (λh=>?_))<;>(try simp only[DZ]at h))|simp only[EVz,seval,↓reduceIte,EV6,EV7]))
 all_goals(refine E _ _ (.inl (.inl (congrArg AV.bool ?_))) (SubN.refl _);simp[*])
variable (hG:GOk G)
include hG
theorem f272 (p x:U) (X:p.kids.length<1000000):Pure G Tryz.prog 272 [.agg p.cs,.agg x.cs] (.int .i64 (d9 p p.kids x)):=by
 have O:=f77 G hG p.kind x.kind
 refine Pure.w c272 λR M=>?_
 unfold s272 r272
 unfold d9 gG at M
 rw[U.cs_eq p,U.cs_eq x]
 cases T:bt p.kind x.kind with
 |false=>
  rw[T]at O M
  (repeat' (first|(with_reducible refine aa O ?_)|simp only[EVz,seval,↓reduceIte,EV6,EV7,F]|simp only[EVz,seval,↓reduceIte,EV6,EV7]|(with_reducible intro J E;(try(have I:=E;simp only[EVK]at I;(have F:=I))))))
  all_goals exact RQ M
 |true=>
  rw[T]at O M
  simp only[Bool.true_eq_false,if_false]at M
  (repeat' (first|(with_reducible refine aa O ?_)|simp only[EVz,seval,↓reduceIte,EV6,EV7,F]|simp only[EVz,seval,↓reduceIte,EV6,EV7]|(with_reducible intro J E;(try(have I:=E;simp only[EVK]at I;(have F:=I))))))
  have N:=f326k G [(J,.cells 29 x.cs)] (.func (.func 327) #[] #[.pointer (some ⟨J,0,none⟩)]) (λk=>decide (k.kind=x.kind)&&decide (k.label=x.label)) p.kids (by omega)
   (λy Y=>⟨_,_,_,rfl,f327 G J x y⟩)
  rw[U.cs_eq x]at N
  cases V:(p.kids.any λk=>decide (k.kind=x.kind)&&decide (k.label=x.label))with
  |false=>
   rw[V]at N M
   (repeat' (first|simp only[EVz,seval,↓reduceIte,EV6,EV7,F]|(refine cU N.v ?_)))
   all_goals exact RQ M
  |true=>
   rw[V]at N M
   (repeat' (first|simp only[EVz,seval,↓reduceIte,EV6,EV7,F]|(refine cU N.v ?_)))
   all_goals exact RQ M
omit hG
theorem f273 (u:U) (q:Idd) (x:U) (F:u.Tame) (I:x.Tame):Pure G Tryz.prog 273 [.agg u.cs,.agg q.cs,.agg x.cs] (.bool (decide (8<(((anc q u).length:Int)+1+x.dep)))):=by
 have E:=f328 G q u F
 have M:=f38 G x I
 simp only[Idd.cs]at E
 have T:(anc q u).length<=u.flat.length:=by
  unfold anc
  rw[length_reverse,length_map,length_dropLast]
  have:=fS q u
  omega
 have V:=F.2
 have J:=x.dep_cnt
 have X:=I.2
 have Y:=x.dep_ge
 unfold U.cnt at J
 have O:IntKind.i64.wrap (((anc q u).length:Int)+1)=((anc q u).length:Int)+1:=av (by omega) (by omega)
 have w2:IntKind.i64.wrap (((anc q u).length:Int)+1+x.dep)=((anc q u).length:Int)+1+x.dep:=av (by omega) (by omega)
 refine Pure.w c273 λR N=>?_
 unfold s273 r273
 (repeat' (first|(with_reducible first|refine aa E ?_|refine aa M ?_)|simp only[EVz,seval,↓reduceIte,EV6,EV7,O,w2]))
 all_goals exact RQ N
end
def dg:Option (Idd×Nat)->AV
 |some (q,k)=>.tup [.agg [.int .i64 q.act,.int .i64 q.item,.int .i64 q.n,.int .i64 k],.int .i64 0]
 |none=>.tup [.agg [.int .i64 0,.int .i64 0,.int .i64 0,.int .i64 0],.int .i64 9]
def cH:(Idd×Nat) ⊕ Int->AV
 | .inl (q,k)=>.tup [.agg [.int .i64 q.act,.int .i64 q.item,.int .i64 q.n],.int .i64 k,.int .i64 0]
 | .inr e=>.tup [.agg [.int .i64 0,.int .i64 0,.int .i64 0],.int .i64 0,.int .i64 e]
def dest (u:U) (x:Itm):(Idd×Nat) ⊕ Int:=
 if (one u x.at_).2≠0 then .inr (one u x.at_).2
 else if x.kind=0 then (match spot u (one u x.at_).1 x.wh with|none=>.inr 9|some q=>.inl q)
 else if (one u x.to_).2≠0 then .inr (one u x.to_).2
 else match eS u (one u x.at_).1 (one u x.to_).1 x.wh with|none=>.inr 9|some q=>.inl q
theorem fU {i:Idd} {u:U} (hi:i∈u.ids):(U.way i u).isEmpty=false:=by
 have:=cE.2 hi
 cases h:U.way i u<;>simp_all
section
variable (G:Glob)
theorem f379 (u:U) (i:Idd) (f:Value) (m:Int) (T:u.Short) (hi:i∈u.ids) (O:dV G Tryz.prog f [.int .i64 (fnd i u).kids.length] (.int .i64 m)):
  Pure G Tryz.prog 379 [.agg u.cs,.agg i.cs,.sc f] (.tup [.agg [.int .i64 i.act,.int .i64 i.item,.int .i64 i.n,.int .i64 m],.int .i64 0]):=by
 have I:=f111 G i u T
 unfold ja at I
 rw[fU hi,if_neg (by simp)]at I
 simp only[Idd.cs]at I
 rw[U.cs_eq (fnd i u)]at I
 refine Pure.w c379 λR N=>?_
 unfold s379 r379
 (repeat' (first|(with_reducible refine aa I ?_)|simp only[EVz,seval,↓reduceIte,EV6,EV7,E]|simp only[EVz,seval,↓reduceIte,EV6,EV7]|(with_reducible intro M J;(try(have F:=J;simp only[EVK]at F;first|(have E:=AI F E)|(have E:=F))))|(refine aD O ?_)))
 all_goals exact RQ N
theorem f380 (n:Int):Pure G Tryz.prog 380 [.int .i64 n] (.int .i64 0):=by
 refine Pure.w c380 λR E=>?_
 unfold s380 r380
 (repeat' (simp only[EVz,seval,↓reduceIte,EV6,EV7]))
 (all_goals((exact RET.eq E rfl)))
theorem f382 (n:Int):Pure G Tryz.prog 382 [.int .i64 n] (.int .i64 n):=by
 refine Pure.w c382 λR E=>?_
 unfold s382 r382
 (repeat' (simp only[EVz,seval,↓reduceIte,EV6,EV7]))
 (all_goals((exact RET.eq E rfl)))
theorem f378 (u:U) (i:Idd) (O:u.Short) (hi:i∈u.ids):Pure G Tryz.prog 378 [.agg u.cs,.agg i.cs] (dg (spot u i 0)):=by
 have J:=f379 G u i _ 0 O hi (f380 G _).v
 simp only[Idd.cs]at J
 refine Pure.w c378 λR N=>?_
 unfold s378 r378
 (repeat' (first|(with_reducible refine aa J ?_)|simp only[EVz,seval,↓reduceIte,EV6,EV7,I]|simp only[EVz,seval,↓reduceIte,EV6,EV7]|(with_reducible intro M E;(try(have F:=E;simp only[EVK]at F;(have I:=F))))))
 all_goals exact RQ N
theorem f381 (u:U) (i:Idd) (O:u.Short) (hi:i∈u.ids):Pure G Tryz.prog 381 [.agg u.cs,.agg i.cs] (dg (spot u i 1)):=by
 have J:=f379 G u i _ _ O hi (f382 G _).v
 simp only[Idd.cs]at J
 refine Pure.w c381 λR N=>?_
 unfold s381 r381
 (repeat' (first|(with_reducible refine aa J ?_)|simp only[EVz,seval,↓reduceIte,EV6,EV7,I]|simp only[EVz,seval,↓reduceIte,EV6,EV7]|(with_reducible intro M E;(try(have F:=E;simp only[EVK]at F;(have I:=F))))))
 all_goals exact RQ N
theorem f384 (u:U) (i:Idd) (b:Nat) (Z:b<=1) (Y:u.Short) (X:u.ids.Nodup) (V:∀q,aM i u=some q->q.2.2<1000000):
  Pure G Tryz.prog 384 [.agg u.cs,.agg i.cs,.int .i64 b] (dg ((aM i u).map λq=>(q.1.id,q.2.2+b))):=by
 have J:=f286 G i u Y X
 simp only[Idd.cs]at J
 unfold kl at J
 refine Pure.w c384 λR M=>?_
 unfold s384 r384
 rcases T:aM i u with _|⟨p,d,k⟩
 ·rw[T]at J M
  (repeat' (first|(with_reducible refine aa J ?_)|simp only[EVz,seval,↓reduceIte,EV6,EV7,E]|simp only[EVz,seval,↓reduceIte,EV6,EV7]|(with_reducible intro N I;(try(have F:=I;simp only[EVK]at F;first|(have E:=AI F E)|(have E:=F))))))
  all_goals exact RQ M
 ·have O:=V _ T
  rw[T]at J M
  simp only at O
  have e:IntKind.i64.wrap ((k:Int)+(b:Int))=((k+b:Nat):Int):=by rw[av (by omega) (by omega)];omega
  (repeat' (first|(with_reducible refine aa J ?_)|simp only[EVz,seval,↓reduceIte,EV6,EV7,e,E]|simp only[EVz,seval,↓reduceIte,EV6,EV7,e]|(with_reducible intro N I;(try(have F:=I;simp only[EVK]at F;first|(have E:=AI F E)|(have E:=F))))))
  all_goals exact RQ M
theorem f383 (u:U) (i:Idd) (V:u.Short) (T:u.ids.Nodup) (O:∀q,aM i u=some q->q.2.2<1000000):Pure G Tryz.prog 383 [.agg u.cs,.agg i.cs] (dg (spot u i 2)):=by
 have I:=f384 G u i 1 (by omega) V T O
 simp only[Idd.cs]at I
 have e:spot u i 2=(aM i u).map λq=>(q.1.id,q.2.2+1):=by unfold spot;simp
 rw[e]
 obtain⟨z,X⟩:∃z,(aM i u).map (λq=>(q.1.id,q.2.2+1))=z:=⟨_,rfl⟩
 rw[X]at I ⊢
 refine Pure.w c383 λR M=>?_
 unfold s383 r383
 unfold dg at I M
 rcases z with _|⟨q,k⟩<;>(repeat' (first|(with_reducible refine aa I ?_)|simp only[EVz,seval,↓reduceIte,EV6,EV7,J]|simp only[EVz,seval,↓reduceIte,EV6,EV7]|(with_reducible intro N E;(try(have F:=E;simp only[EVK]at F;(have J:=F))))))
 all_goals exact RQ M
theorem f385 (u:U) (i:Idd) (V:u.Short) (T:u.ids.Nodup) (O:∀q,aM i u=some q->q.2.2<1000000):Pure G Tryz.prog 385 [.agg u.cs,.agg i.cs] (dg (spot u i 3)):=by
 have I:=f384 G u i 0 (by omega) V T O
 simp only[Idd.cs]at I
 have e:spot u i 3=(aM i u).map λq=>(q.1.id,q.2.2+0):=by unfold spot;simp
 rw[e]
 obtain⟨z,X⟩:∃z,(aM i u).map (λq=>(q.1.id,q.2.2+0))=z:=⟨_,rfl⟩
 rw[X]at I ⊢
 refine Pure.w c385 λR M=>?_
 unfold s385 r385
 unfold dg at I M
 rcases z with _|⟨q,k⟩<;>(repeat' (first|(with_reducible refine aa I ?_)|simp only[EVz,seval,↓reduceIte,EV6,EV7,J]|simp only[EVz,seval,↓reduceIte,EV6,EV7]|(with_reducible intro N E;(try(have F:=E;simp only[EVK]at F;(have J:=F))))))
 all_goals exact RQ M
theorem f363:Pure G Tryz.prog 363 [] (.agg [fnV 378,fnV 381,fnV 383,fnV 385]):=by
 refine Pure.w c363 λR J=>?_
 unfold s363 r363
 (repeat' (first|simp only[EVz,seval,↓reduceIte,EV6,EV7]|(with_reducible intro I E;(try(have F:=E;simp only[EVK]at F;(have M:=F))))|(refine oo (e:=376) (by kernel_rfl) (by kernel_rfl) (by kernel_rfl) ?_)))
 all_goals exact RQ J
def leadV (wh:Int):Value:=.func (.func (if wh=0 then 378 else if wh=1 then 381 else if wh=2 then 383 else 385)) #[] #[]
theorem lR (u:U) (i:Idd) (wh:Int) (M:0<=wh) (N:wh<=3) (E:u.Short) (hi:i∈u.ids) (I:u.ids.Nodup) (F:∀q,aM i u=some q->q.2.2<1000000):dV G Tryz.prog (leadV wh) [.agg u.cs,.agg i.cs] (dg (spot u i wh)):=by
 have J:wh=0\/wh=1\/wh=2\/wh=3:=by omega
 rcases J with rfl|rfl|rfl|rfl
 ·exact(f378 G u i E hi).v
 ·exact(f381 G u i E hi).v
 ·exact(f383 G u i E I F).v
 ·exact(f385 G u i E I F).v
theorem nX (w:Nat) (h:w<4):[fnV 378,fnV 381,fnV 383,fnV 385].getD w .any= .sc (leadV w):=by
 have E:w=0\/w=1\/w=2\/w=3:=by omega
 rcases E with rfl|rfl|rfl|rfl<;>rfl
end
end Go.Av
