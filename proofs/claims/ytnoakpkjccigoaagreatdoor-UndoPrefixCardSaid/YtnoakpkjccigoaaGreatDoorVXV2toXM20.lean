/-
  UNDO, walks 2: a unit changed in a copy of the tree; the first error of several tests.
-/
import Derived.Test.YtnoakpkjccigoaaGreatDoorVXM14toXV1
import Derived.Test.YtnoakpkjccigoaaGreatDoorVXN0toXM26
import Derived.Test.YtnoakpkjccigoaaGreatDoorVXM17toXM13
import Derived.Test.YtnoakpkjccigoaaGreatDoorVXAv34toXM15
namespace Go.Av
open Go Go.RowKit Go.Proofs List
set_option linter.unusedSimpArgs false
set_option linter.unusedVariables false
theorem RET.keep {x v:AV} {σ D:Store} (F:x=v) (E:SubN σ D):RET x D (λr σ'=>r=v/\σ'=σ):=⟨v,σ,F ▸ AVle.rfl' _,E,rfl,rfl⟩
theorem cj (G:Glob) (j:Idd) (u:U) (F:u.Short):Pure G Tryz.prog 44 [.agg u.cs,.agg j.cs] (.tup [.agg (fnd j u).cs,.bool (hasP j u)]):=by
 have D:=f44 G j u F
 unfold gV at D
 rw[has_way]at D
 cases h:hasP j u with
 |true=>
  rw[h]at D
  exact D
 |false=>
  rw[h]at D
  simp only[Bool.not_false,if_true]at D
  have E:fnd j u=noU:=by
   unfold Go.Av.fnd
   rw[(cO u).2 (of_decide_eq_false h)]
   rfl
  rw[E]
  refine ag.toPure D ?_
  rintro r σ' ⟨rfl,rfl⟩
  refine LeRep.tup (.cons (LeRep.agg ?_) (.cons (LeRep.refl _) .nil))
  rw[U.cs_eq]
  unfold zU noU
  repeat' first
   |exact LeReps.nil
   |refine LeReps.cons ?_ ?_
  all_goals first|exact LeRep.refl _|exact LeRep.nil
theorem dK:noU.Short:=by
 have F:noU.fit:=(U.fit_eq _).2 ⟨by decide,⟨by decide,by simp[noU]⟩,⟨by decide,by simp[noU]⟩,by decide,by simp[noU]⟩
 have D:noU.flat=[noU]:=by rw[U.flat_eq];show noU::U.flats []=_;rw[U.flats]
 refine⟨⟨F,by rw[D];decide⟩,?_⟩
 rw[D]
 intro x E
 simp only[mem_singleton]at E
 subst E
 exact⟨by decide,by decide,by decide,by simp[noU],by simp[noU]⟩
theorem fb {u:U} (E:u.Short) (j:Idd):(fnd j u).Short:=by
 cases h:U.way j u with
 |nil=>
  unfold Go.Av.fnd
  rw[h]
  exact dK
 |cons x l=>
  obtain⟨y,D⟩:∃y,(U.way j u).getLast?=some y:=by rw[h];exact⟨_,getLast?_eq_some_getLast (by simp)⟩
  rw[aB D]
  exact E.node (m7 u _ (mem_of_getLast? D))
section
variable (G:Glob)
theorem f109 {σ:Store} {l:List (Value×Bool×Int)} (N:l.length<1000000)
  (T:∀x∈l,∃F,SubN F σ/\cd G Tryz.prog x.1 [] F (λr σ'=>r= .bool x.2.1/\σ'=F)):ag G Tryz.prog 109 [.lst 2 (l.map ckRow)] σ λr σ'=>r= .int .i64 (cc l)/\σ'=σ:=by
 refine ag.wk c109 λR M=>?_
 unfold s109 r109
 (repeat' (first|(with_reducible (refine ab (λh=>?_) (λh=>?_))<;>(try simp only[DZ]at h))|simp only[EVz,seval,↓reduceIte,EV6,EV7,E.yes,E.le0,E.lt',E.get,E.row,Y,ckRow]|simp only[EVz,seval,↓reduceIte,EV6,EV7,V]|simp only[EVz,seval,↓reduceIte,EV6,EV7]|(with_reducible intro O I;(try(have J:=I;simp only[EVK]at J;(have X:=J))))|(refine ay l (λi r (c:Unit)=>cc l=cc r) (λi c=>[(5,.lst 2 (l.map ckRow)),(6,.int .i64 l.length),(7,.int .i64 i)]) (λ_ _=>σ) () rfl (Weak.rfl' _ _) (by omega) (λi x r c D E Y=>?_) (λc D V=>?_))|(refine ce ((T x E.mem).elim λ_ q=>q.2.keepIn q.1) (SubN.tail (SubN.refl _) _) ?_)|fail))
 ·exact M _ _ (.inl (.inl (by rw[D,cc,if_pos h]))) (SubN.tail (SubN.refl _) _)
 ·exact ap E () (by rw[D,cc,if_neg (by simp[h])]) (Weak.sub (SubN.tail (SubN.refl _) _))
 ·exact M _ _ (.inl (.inl (by rw[D];rfl))) (SubN.refl _)
theorem bG {σ:Store} {g:Option Nat} {T:TypeId} {l:List (Value×Bool×Int)} {K:AV->Store->Prop} {t:Tag K} {rows:List (List AV)} (D:rows=l.map ckRow) (F:l.length<1000000)
  (J:∀x∈l,∃E,SubN E σ/\cd G Tryz.prog x.1 [] E (λr σ'=>r= .bool x.2.1/\σ'=E)) (I:K (.int .i64 (cc l)) σ):CALL G Tryz.prog (.func (.func 109) #[] #[]) [.own g T 2 rows] σ K t:=by
 subst D
 exact aZ σ [] (f109 G F J).v ⟨.inl (.inr ⟨rfl,rfl⟩),trivial⟩ (by rw[append_nil];exact SubN.refl _) (by rintro _ _ ⟨rfl,rfl⟩;rw[append_nil];exact I)
set_option maxHeartbeats 4000000 in
theorem f116:∀(u:U),u.Short->Pure G Tryz.prog 116 [.agg u.cs] (.agg u.cs):=by
 refine U.ind λu ih hs=>?_
 have h0:=hs.2 u u.flat_self
 have bx:=hs.1.kids
 have bm:=f86p G u.head h0.2.1
 have bo:=f86p G u.words h0.2.2.1
 have bn:=f203 G (u.kids.map U.cs) (dZ _) (by rw[length_map];omega)
 refine ag.freezeK (R1:=λσ'=>σ'=[]) ?_
 refine ag.w c116 ?_
 unfold s116 r116
 refine W_tail2 λY hY=>?_
 have an:∀(I J:Nat) (v:AV) (κ:Store),bD 27 8 (u.kids.map U.cs) v κ->(κ.keys++[J,I]).Nodup->
   W G Tryz.prog Y (retQ [(2,some (true,8))] λr σ'=>∃xs κ bi,r= .agg xs/\FrzL κ xs u.cs/\σ'=κ++bi/\bi=[]) [(1,.sc (.pointer (some ⟨I,0,none⟩))),(2,.sc (.pointer (some ⟨J,0,none⟩)))] ((I,.cells 27 (U.csv u v))::(J,.cells 27 zU)::κ) ⟨⟩:=by
  intro I J v κ X V
  subst hY
  have hv:=X
  obtain⟨M,cap,rfl,hv⟩:=hv
  rw[length_map]at X
  have Z:¬I=J:=by
   have:=(nodup_append.1 V).2.1
   simp at this
   exact λe=>this e.symm
  have q2:¬J=I:=λe=>Z e.symm
  rcases hv with⟨h1,h2,h3⟩|⟨T,pad,rfl,rfl,g1,g2,g3,g4⟩
  ·have ba:u.kids=[]:=map_eq_nil_iff.1 h1
   subst h3
   simp only[ba,map_nil,length_nil]at X ⊢
   unfold U.csv
   (repeat' (first|(with_reducible (refine ab (λh=>?_) (λh=>?_))<;>(try simp only[DZ]at h))|simp only[EVz,seval,↓reduceIte,EV6,EV7,Z,q2,U.csv,D.yes,D.le0,D.lt',D.get,D.row,hw]|simp only[EVz,seval,↓reduceIte,EV6,EV7,Z,q2,U.csv,hn]|simp only[EVz,seval,↓reduceIte,EV6,EV7,Z,q2,U.csv]|(refine ay ([]:List U) (λE r (c:Unit)=>True) (λE c=>[(1,.sc (.pointer (some ⟨I,0,none⟩))),(2,.sc (.pointer (some ⟨J,0,none⟩))),(18,.sc (.slice M 0 cap)),(19,.int .i64 (0:Nat)),(20,.int .i64 E)]) (λE c=>[(I,.cells 27 (U.csv u (.sc (.slice M 0 cap)))),(J,.cells 27 zU)]) () trivial (Weak.rfl' _ _) (by simp) (λE x r c al D hw=>?_) (λc al hn=>?_))|(exfalso;omega)|fail))
   all_goals try exact absurd D.mem (by simp)
   all_goals exact RET.mk' (SubN.nil _) ⟨_,[],[],rfl,U.csv_frz (x:=u) (by rw[ba];exact X),rfl,rfl⟩
  ·rw[length_map]at g1
   simp[Store.keys]at V
   have q3:¬I=T:=by omega
   have q4:¬J=T:=by omega
   have be:¬T=I:=λe=>q3 e.symm
   have bh:¬T=J:=λe=>q4 e.symm
   (repeat' (first|simp only[EVz,seval,↓reduceIte,EV6,EV7,Z,q2,U.csv,length_map,D.yes,D.le0,D.lt',D.get,D.row,hw]|simp only[EVz,seval,↓reduceIte,EV6,EV7,Z,q2,U.csv,length_map,hn]|simp only[EVz,seval,↓reduceIte,EV6,EV7,Z,q2,U.csv,length_map]|(refine ay u.kids (λE r (c:Unit)=>True) (λE c=>[(1,.sc (.pointer (some ⟨I,0,none⟩))),(2,.sc (.pointer (some ⟨J,0,none⟩))),(18,.sc (.slice (some ⟨T,0,none⟩) u.kids.length cap)),(19,.int .i64 u.kids.length),(20,.int .i64 E)]) (λE c=>[(I,.cells 27 (U.csv u (.sc (.slice (some ⟨T,0,none⟩) u.kids.length cap)))),(J,.cells 27 zU),(T,.cells 27 ((u.kids.map U.cs).flatten++pad))]) () trivial (Weak.rfl' _ _) (by omega) (λE x r c al D hw=>?_) (λc al hn=>?_))|fail))
   ·have ah:=D.lt
    have bb:u.kids[E]? =some x:=by rw[getElem?_eq_getElem ah,←D.get x];simp[ah]
    have bp:(u.kids.map U.cs)[E]? =some x.cs:=by rw[getElem?_map,bb];rfl
    have aw:(((u.kids.map U.cs).flatten++pad).drop (0+E*8)).take 8=x.cs:=by simpa using jI (pad:=pad) g3 bp
    have bu:8<=(((u.kids.map U.cs).flatten++pad).drop (0+E*8)).length:=by
     rw[length_drop,g4];omega
    have bw:0+E*8+8<=((u.kids.map U.cs).flatten++pad).length:=by
     rw[g4];omega
    have bs:u.kids.set E x=u.kids:=by
     apply ext_getElem?
     intro j
     rw[getElem?_set]
     split
     ·rename_i e;subst e;exact bb.symm
     ·rfl
    have ac:aH ((u.kids.map U.cs).flatten++pad) (0+E*8) x.cs=(u.kids.map U.cs).flatten++pad:=by
     have:=iK (pad:=pad) (c:=x.cs) g3 (i:=E) (by rw[length_map];exact ah) (U.cs_len _)
     rw[←map_set,bs]at this
     simpa using this
    have bq:=ih x D.mem (hs.kid D.mem)
    have bd:=U.cs_len x
    (repeat' (first|(with_reducible first|refine AI (by omega) ?_|refine aa bq ?_)|simp only[EVz,seval,↓reduceIte,EV6,EV7,D.yes,D.le0,D.lt',D.get,hw,aw,ac,Z,q2,q3,q4,be,bh,bd,O]|simp only[EVz,seval,↓reduceIte,EV6,EV7,D.yes,D.le0,D.lt',D.get,hw,aw,ac,Z,q2,q3,q4,be,bh,bd]|(with_reducible intro bl N;(try(have F:=N;simp only[EVK]at F;(have O:=F))))|(with_reducible first|refine ae ?_ ?_|refine af ?_)|fail))
    all_goals exact ap D () trivial (Weak.sub (SubN.tail (SubN.refl _) _))
   ·(repeat' ((exfalso;omega)))
    all_goals exact RET.mk' (σ':=[(T,_)]) (SubN.tail (SubN.tail (SubN.refl _) _) _) ⟨_,[(T,_)],[],rfl,U.csv_frz (x:=u) X,by simp,rfl⟩
 clear hY
 (repeat' (first|(with_reducible first|refine aa bm ?_|refine aa bo ?_)|simp only[EVz,seval,↓reduceIte,EV6,EV7,U.cs_eq u,O]|simp only[EVz,seval,↓reduceIte,EV6,EV7,U.cs_eq u]|(with_reducible intro bl N;(try(have F:=N;simp only[EVK]at F;first|(have O:=AI F O)|(have O:=F))))|(with_reducible first|refine ae ?_ ?_|refine af ?_)|(refine aT [] ((_,_)::(_,_)::[]) bn.v (ax.rfl' _) (SubN.refl _) (λv κ X V=>⟨_,SubN.pull2',?_⟩);have hv:=X;obtain⟨M,cap,rfl,_⟩:=hv)|fail))
 all_goals(rw[length_map]at X;exact an _ _ _ _ X (by simpa[Store.keys]using V))
end
theorem SubN.pullL {l κ σ:Store}:SubN (l++(κ++σ)) (κ++(l++σ)):=SubN.perm (by
 rw[←append_assoc,←append_assoc]
 exact List.Perm.append_right σ perm_append_comm)
theorem SubN.pull4 {a b c d:Nat×AObj} {κ σ:Store}:SubN (a::b::c::d::(κ++σ)) (κ++a::b::c::d::σ):=SubN.pullL (l:=[a,b,c,d])
def jx (j:Idd) (us:List U):Bool:=decide (j∈U.idss us)
theorem ids_kid {j:Idd} {u:U} (h:u.id≠j):hasP j u=jx j u.kids:=by
 unfold hasP jx
 rw[U.ids_eq]
 simp[mem_cons,Ne.symm h]
theorem oF (j:Idd) (k:U) (us:List U):jx j (k::us)=(hasP j k||jx j us):=by
 unfold jx hasP
 rw[U.idss_cons,Bool.eq_iff_iff]
 simp
theorem nd_kid:∀{us:List U},(U.idss us).Nodup->∀{x:U},x∈us->x.ids.Nodup
 |[],_,x,hx=>by cases hx
 |y::us,h,x,hx=>by
  rw[U.idss_cons,nodup_append]at h
  rcases mem_cons.1 hx with rfl|hx
  ·exact h.1
  ·exact nd_kid h.2.1 hx
section
variable (G:Glob)
set_option maxHeartbeats 8000000 in
theorem f211 (f:Value) (g:U->U) (σ:Store) (i:Idd):∀(u:U),u.Short->u.ids.Nodup->(i∈u.ids->iV G f g σ (fnd i u))->
  ag G Tryz.prog 211 [.agg u.cs,.agg i.cs,.sc f] σ (λr σ'=>r= .tup [.agg (if i∈u.ids then U.wth i g u else u).cs,.bool (hasP i u)]/\σ'=σ):=by
 refine U.ind λu ih hs hn hD=>?_
 have d3:=hs.1.kids
 have bn:=f203 G (u.kids.map U.cs) (dZ _) (by rw[length_map];omega)
 by_cases Z:u.id=i
 ·have e0:decide (u.id=i)=true:=decide_eq_true Z
  have bp:fnd i u=u:=aB (by rw[aN Z];rfl)
  have hi:i∈u.ids:=Z ▸ cR u
  have hD:=hD hi
  rw[bp]at hD
  unfold iV at hD
  rw[if_pos hi,bA Z,hasP,decide_eq_true hi]
  refine ag.w c211 ?_
  unfold s211 r211
  rw[U.cs_eq u]at hD ⊢
  (repeat' (first|simp only[EVz,seval,↓reduceIte,EV6,EV7,gv,e0,D]|simp only[EVz,seval,↓reduceIte,EV6,EV7,gv,e0]|(with_reducible intro I F;(try(have E:=F;simp only[EVK]at E;(have D:=E))))|(refine ce hD (SubN.tail (SubN.tail (SubN.refl _) _) _) ?_)|fail))
  all_goals exact RET.keep rfl (SubN.tail (SubN.tail (SubN.refl _) _) _)
 ·have e0:decide (u.id=i)=false:=decide_eq_false Z
  have bd:=(U.nd_kids hn).1
  have bs:=ids_kid (j:=i) Z
  refine ag.freezeKT (R1:=λσ'=>σ'=σ) rfl ?_
  refine ag.w c211 ?_
  unfold s211 r211
  have hU:=U.cs_eq u
  obtain⟨ys,V⟩:∃ys,(if i∈u.ids then U.wth i g u else u).cs=ys:=⟨_,rfl⟩
  rw[V]
  obtain⟨hb,ac⟩:∃b,hasP i u=b:=⟨_,rfl⟩
  rw[ac]
  rw[hU]
  (repeat' (first|simp only[EVz,seval,↓reduceIte,EV6,EV7,gv,e0,D]|simp only[EVz,seval,↓reduceIte,EV6,EV7,gv,e0]|(with_reducible intro I F;(try(have E:=F;simp only[EVK]at E;(have D:=E))))|fail))
  rename_i b3 d1
  refine ay u.kids (λO r (c:Unit)=>hb=jx i r) (λO c=>[(2,.sc f),(3,.sc (.pointer (some ⟨b3,0,none⟩))),(4,.ref i.cs),(6,.sc (.pointer (some ⟨I,0,none⟩))),(20,.lst 8 (u.kids.map U.cs)),(21,.int .i64 u.kids.length),(22,.int .i64 O)]) (λO c=>[(I,.cells 27 zU),(b3,.cells 27 (U.csv u (.lst 8 (u.kids.map U.cs))))]++σ) () (ac ▸ bs) (Weak.rfl' _ _) (by omega) (λO x r c M J hw=>?_) (λc M hn=>?_)
  ·have N:=J.lt
   have bl:u.kids[O]? =some x:=by rw[getElem?_eq_getElem N,←J.get x];simp[N]
   have bm:=hs.kid J.mem
   rw[oF]at M
   have bb:u.kids≠[]:=λe=>by rw[e]at N;cases N
   have ah:¬b3=I:=λe=>D.1 e.symm
   generalize d2:I=b6 at*
   clear E
   cases hp:hasP i x with
   |true=>
    have al:i∈x.ids:=of_decide_eq_true hp
    have bh:i∈u.ids:=by rw[U.ids_eq];exact mem_cons_of_mem _ (de J.mem al)
    have ba:u.kids=u.kids.take O++x::u.kids.drop (O+1):=by
     have h3:u.kids.drop O=x::u.kids.drop (O+1):=by
      rw[drop_eq_getElem_cons N]
      congr 1
      rw[getElem?_eq_getElem N]at bl
      exact Option.some.inj bl
     rw[←h3,take_append_drop]
    have sp:=nA ba bd al
    have bq:=lJ Z sp
    clear ba
    have T:=ih x J.mem bm sp.nd (λ_=>by rw[←bq];exact hD bh)
    have bi:=sp.wth (f:=g) Z
    rw[hp]at M
    have bu:u.kids.take O++U.wth i g x::u.kids.drop (O+1)=u.kids.set O (U.wth i g x):=by
     rw[set_eq_take_append_cons_drop,if_pos N]
    rw[bu]at bi
    rw[if_pos bh]at V
    rw[if_pos al,hp]at T
    simp only[Idd.cs]at T
    have aw:=U.cs_len (U.wth i g x)
    have an:=U.cs_len x
    (repeat' (first|simp only[EVz,seval,↓reduceIte,EV6,EV7,J.yes,J.le0,J.lt',J.get,J.row,hw,ah,aw,an,U.csv,D]|(with_reducible intro I F;(try(have E:=F;simp only[EVK]at E;(have D:=AI E D))))|(refine ce T.v (SubN.tail (SubN.tail (SubN.tail (SubN.refl _) _) _) _) ?_)|fail))
    rename_i b9 _ _ _
    refine aT [] ((I,_)::(b9,_)::(b6,_)::(b3,_)::σ) bn.v (ax.rfl' _) (SubN.refl _) (λv κ ho bw=>⟨_,SubN.pull4,?_⟩)
    have hv:=ho
    obtain⟨cw,cap,rfl,hv⟩:=hv
    rw[length_map]at ho
    obtain⟨X,pad,rfl,rfl,g1,g2,g3,g4⟩:=hv.resolve_left (λh=>bb (map_eq_nil_iff.1 h.1))
    simp[Store.keys]at bw
    have n1:¬X=I:=by omega
    have n2:¬X=b9:=by omega
    have n3:¬X=b6:=by omega
    have n4:¬X=b3:=by omega
    have bx:¬I=X:=λe=>n1 e.symm
    have ch:¬b9=X:=λe=>n2 e.symm
    have cm:¬b6=X:=λe=>n3 e.symm
    have cp:¬b3=X:=λe=>n4 e.symm
    rw[length_map]at g1
    have be:aH ((u.kids.map U.cs).flatten++pad) (0+O*8) (U.wth i g x).cs=((u.kids.set O (U.wth i g x)).map U.cs).flatten++pad:=by
     rw[map_set]
     simpa using iK (pad:=pad) g3 (by rw[length_map];exact N) (U.cs_len _)
    have d0:0+O*8+8<=((u.kids.map U.cs).flatten++pad).length:=by
     rw[g4];omega
    (repeat' (first|(with_reducible refine AI (by omega) ?_)|simp only[EVz,seval,↓reduceIte,EV6,EV7,J.le0,J.lt',ah,aw,be,n1,n2,n3,n4,bx,ch,cm,cp,D]|fail))
    rw[Bool.true_or]at M
    subst M
    refine RET.mk' (σ':=[(X,_)]++σ) (SubN.tail (SubN.tail (SubN.tail (SubN.tail (SubN.refl _) _) _) _) _) ⟨_,[(X,_)],σ,rfl,?_,rfl,rfl⟩
    rw[←V,bi]
    refine U.csv_frz (x:={u with kids:=u.kids.set O (U.wth i g x)}) (bD.mk (by rw[length_map,length_set]) (by rw[length_map,length_set];exact g1) g2 (dZ _) ?_)
    rw[←g4,length_append,length_append,au _ (dZ _),au _ (dZ _),length_map,length_map,length_set]
   |false=>
    rw[hp]at M
    have Y:i∉x.ids:=of_decide_eq_false hp
    have T:=ih x J.mem bm (nd_kid bd J.mem) (λh=>absurd h Y)
    rw[if_neg Y,hp]at T
    simp only[Idd.cs]at T
    have an:=U.cs_len x
    (repeat' (first|simp only[EVz,seval,↓reduceIte,EV6,EV7,J.yes,J.le0,J.lt',J.get,J.row,hw,ah,an,U.csv,D]|(with_reducible intro I F;(try(have E:=F;simp only[EVK]at E;(have D:=AI E D))))|(refine ce T.v (SubN.tail (SubN.tail (SubN.tail (SubN.refl _) _) _) _) ?_)|fail))
    all_goals exact ap J () (by rw[M,Bool.false_or]) (Weak.sub (SubN.tail (SubN.tail (SubN.refl _) _) _))
  ·have Y:i∉u.ids:=by
    intro h
    have:hb=true:=by rw[←ac];exact decide_eq_true h
    rw[M]at this
    simp[jx,U.idss_nil]at this
   rw[if_neg Y]at V
   have bo:hb=false:=by rw[M];simp[jx,U.idss_nil]
   subst bo
   (repeat' (simp only[EVz,seval,↓reduceIte,EV6,EV7,hn,U.csv,D]))
   refine RET.mk' (σ':=σ) (SubN.tail (SubN.tail (SubN.refl _) _) _) ⟨_,[],σ,rfl,?_,rfl,rfl⟩
   rw[←V,hU]
   exact oh _
theorem f118 (f:Value) (g:U->U) (σ:Store) (i:Idd) (u:U) (O:u.Short) (X:u.ids.Nodup) (hi:i∈u.ids) (V:iV G f g σ (fnd i u)):
  ag G Tryz.prog 118 [.agg u.cs,.agg i.cs,.sc f] σ (λr σ'=>r= .agg (U.wth i g u).cs/\σ'=σ):=by
 have N:=f116 G u O
 have J:=f211 G f g σ i u O X (λ_=>V)
 rw[if_pos hi,hasP,decide_eq_true hi]at J
 simp only[Idd.cs]at J
 have D:=U.cs_len (U.wth i g u)
 refine ag.w c118 ?_
 unfold s118 r118
 generalize (U.wth i g u).cs=ys at*
 have E:ys.take 8=ys:=take_of_length_le (by omega)
 rw[U.cs_eq u]at N J ⊢
 (repeat' (first|(with_reducible refine aa N ?_)|simp only[EVz,seval,↓reduceIte,EV6,EV7,D,E,M]|simp only[EVz,seval,↓reduceIte,EV6,EV7,D,E]|(with_reducible intro T F;(try(have I:=F;simp only[EVK]at I;(have M:=I))))|(with_reducible first|refine ae ?_ ?_|refine af ?_)|(refine ce J.v (by repeat(first|exact SubN.refl _|refine SubN.tail ?_ _)) ?_)|fail))
 all_goals exact RET.keep (by simp[D,E]) (by repeat(first|exact SubN.refl _|refine SubN.tail ?_ _))
end
theorem j2 (w:List Wd) (D:List (List UInt8)) (a b:Int) (E:Nat):∀(ps:List Nat) (s:Nat) (m:Int),Gaps w.length E s ps->s<=w.length->(putL w D a b E ps m).length<=w.length+ps.length*D.length/\∀p r,ps=p::r->p+E<=(putL w D a b E r (m+D.length)).length
 |[],s,m,_,_=>by rw[putL];simp
 |p::ps,s,m,⟨h1,h2,h3⟩,hs=>by
  have ih:=j2 w D a b E ps (p+E) (m+D.length) h3 (by omega)
  have e:=i6 w D a b E ps (p+E) (m+D.length) h3
  have F:p+E<=(putL w D a b E ps (m+D.length)).length:=by
   rw[e,length_append,length_take];omega
  refine⟨?_,?_⟩
  ·rw[putL,length_append,length_append,length_take,length_drop,cH,length_cons,Nat.add_mul]
   have:=ih.1
   omega
  ·rintro q r I
   injection I with hq1 hq2
   subst hq1 hq2
   exact F
theorem jc {n g:Nat}:∀{ps:List Nat} {s:Nat} (j:Nat),s<=n->Gaps n g s ps->∃D,D<=n/\Gaps n g D (ps.drop j)
 |[],s,j,hs,_=>⟨s,hs,by rw[drop_nil];trivial⟩
 |p::ps,s,0,hs,h=>⟨s,hs,h⟩
 |p::ps,s,j+1,hs,⟨h1,h2,h3⟩=>jc (ps:=ps) j h2 h3
def lW (q:List Wd):AV:=if 256<q.length then .tup [.nil,.int .i64 6]else .tup [.lst 4 (q.map Wd.cs),.int .i64 0]
section
variable (G:Glob)
set_option maxHeartbeats 2000000 in
theorem f246 (w:List Wd) (ps:List Nat) (E:Nat) (D:List (List UInt8)) (a b:Int) (hw:w.length<=100000) (e2:ps.length<=100000) (bq:D.length<=1000) (dc:E<=100000) (hG:Gaps w.length E 0 ps):
  Pure G Tryz.prog 246 [.lst 4 (w.map Wd.cs),.lst 1 (ps.map prow),.int .i64 E,.lst 1 (D.map srow),.int .i64 a,.int .i64 b] (lW (putL w D a b E ps 0)):=by
 refine ag.freezeT ?_
 refine ag.w c246 ?_
 unfold s246 r246
 have T:0+w.length*4<=(List.replicate w.length [AV.str [],.int .i64 0,.int .i64 0,.int .i64 0]).flatten.length:=by rw[cb];simp
 have ba:(w.map Wd.cs).flatten.length=w.length*4:=by rw[au _ (iQ _),length_map]
 have al:aH (List.replicate w.length [AV.str [],.int .i64 0,.int .i64 0,.int .i64 0]).flatten 0 ((w.map Wd.cs).take w.length).flatten=(w.map Wd.cs).flatten:=by
  rw[take_of_length_le (by simp),aY _ _ _ (by rw[ba];exact T),drop_eq_nil_of_le (by rw[ba,cb];simp)]
  simp
 have wn:IntKind.i64.wrap ((ps.length:Int)-1)=(ps.length:Int)-1:=aA (by omega) (by omega)
 (repeat' (first|simp only[EVz,seval,↓reduceIte,EV6,EV7,wn,bw]|simp only[EVz,seval,↓reduceIte,EV6,EV7,wn]|(with_reducible intro cm bn;(try(have bx:=bn;simp only[EVK]at bx;(have bw:=bx))))|(refine iA (elem:=33) (c:=w.length) (sz:=4) (bytes:=40) (zr:=[.str [],.int .i64 0,.int .i64 0,.int .i64 0]) (z:=.agg #[.string .empty,.int .i64 0,.int .i64 0,.int .i64 0]) rfl (by kernel_rfl) (by kernel_rfl) rfl (by omega) (by decide) (by intro τ w;simp[RepL,Rep,Value.cells];rfl) (by omega) (by omega) ?_)|(refine lM (elem:=33) (sz:=4) (ys:=w.map Wd.cs) w.length (w.map Wd.cs).flatten (by kernel_rfl) (by kernel_rfl) rfl (if_pos rfl) (.inl ⟨rfl,rfl⟩) (by simp) T al ?_)))
 clear T al
 obtain⟨L,hL⟩:∃L:Nat->List Wd,L=λj=>putL w D a b E (ps.drop j) ((j*D.length:Nat):Int):=⟨_,rfl⟩
 have aw:L ps.length=w:=by rw[hL];simp only[drop_length];rw[putL]
 have cp:L 0=putL w D a b E ps 0:=by rw[hL];simp
 have bl:∀j,(L j).length<=100100000:=λj=>by
  obtain⟨s',bd,hg⟩:=jc (g:=E) j (Nat.zero_le _) hG
  have:=(j2 w D a b E (ps.drop j) s' ((j*D.length:Nat):Int) hg bd).1
  have h2:(ps.drop j).length*D.length<=100000*1000:=Nat.mul_le_mul (by rw[length_drop];omega) bq
  rw[hL]
  simp only
  omega
 have cw:∀i p,ps[i]? =some p->L i=(L (i+1)).take p++(aX a b D ((i*D.length:Nat):Int)++(L (i+1)).drop (p+E))/\p+E<=(L (i+1)).length:=λi p hp=>by
  obtain⟨hi,hp⟩:=List.getElem?_eq_some_iff.1 hp
  have hd:ps.drop i=p::ps.drop (i+1):=by rw[drop_eq_getElem_cons hi,hp]
  obtain⟨s',bd,hg⟩:=jc (g:=E) i (Nat.zero_le _) hG
  have h1:=(j2 w D a b E (ps.drop i) s' ((i*D.length:Nat):Int) hg bd).2 p _ hd
  have hm:((i*D.length:Nat):Int)+D.length=(((i+1)*D.length:Nat):Int):=by rw[Nat.add_mul];omega
  rw[hm]at h1
  rw[hL]
  simp only
  refine⟨?_,h1⟩
  rw[hd,putL,hm]
 rw[←cp]
 refine jf (ι:=Nat×Nat×Nat×List AV) (λq=>q.1<=ps.length/\RowsAt 4 q.2.2.2 0 (L q.1).length ((L q.1).map Wd.cs)/\q.2.2.1*4<=q.2.2.2.length/\(L q.1).length<=q.2.2.1/\q.2.2.1<=maxLen) (λq=>q.1)
  (λq=>[(1,.lst 1 (ps.map prow)),(2,.int .i64 E),(3,.lst 1 (D.map srow)),(4,.int .i64 a),(5,.int .i64 b),(14,.sc (.slice (some ⟨q.2.1,0,none⟩) (L q.1).length q.2.2.1)),(15,.int .i64 ((q.1:Int)-1))])
  (λq=>[(q.2.1,.cells 33 q.2.2.2)]) (ps.length,cm,w.length,(w.map Wd.cs).flatten) ⟨Nat.le_refl _,?_,?_,?_,?_⟩ (by simp only[aw];exact Weak.rfl' _ _) ?_
 ·simp only[aw]
  have:=RowsAt.all (sz:=4) (rows:=w.map Wd.cs) (pad:=[]) (iQ _) (n:=w.length) (by simp)
  simpa using this
 ·simp only[ba];exact Nat.le_refl _
 ·simp only[aw];exact Nat.le_refl _
 ·simp only;unfold maxLen;omega
 clear bw
 rintro⟨j,b1,cap,cs⟩ ⟨hj,hR,bo,J,bp⟩
 simp only at hj hR bo J bp ⊢
 cases j with
 |zero=>
  have e0:decide ((0:Int)<=((0:Nat):Int)-1)=false:=by decide
  have bs:=bl 0
  (repeat' (first|(with_reducible (refine ab (λh=>?_) (λh=>?_))<;>(try simp only[DZ]at h))|simp only[EVz,seval,↓reduceIte,EV6,EV7,e0]))
  ·refine RET.mk' (SubN.nil _) (.inl ⟨?_,rfl⟩)
   unfold lW
   rw[if_pos (by omega)]
  ·refine RET.mk' (SubN.refl _) (.inr ⟨b1,_,_,cap,cs,4,_,_,rfl,rfl,hR,J,bp,?_,rfl⟩)
   unfold lW
   rw[if_neg (by omega)]
 |succ i=>
  obtain⟨p,hp⟩:∃p,ps[i]? =some p:=⟨ps[i]'(by omega),getElem?_eq_getElem (by omega)⟩
  obtain⟨an,Y⟩:=cw i p hp
  have ah:(ps.map prow).getD i []=[AV.int .i64 (p:Int)]:=by simp[hp,prow]
  have e0:decide ((0:Int)<=(((i+1:Nat):Int))-1)=true:=decide_eq_true (by omega)
  have d0:(((i+1:Nat):Int))-1=(i:Int):=by omega
  have bs:=bl (i+1)
  have wg:IntKind.i64.wrap ((p:Int)+(E:Int))=((p+E:Nat):Int):=by rw[aA (by omega) (by omega)];omega
  have e1:i*D.length<=100000*1000:=Nat.mul_le_mul (by omega) bq
  have wm:IntKind.i64.wrap ((i:Int)*(D.length:Int))=((i*D.length:Nat):Int):=by rw[←Int.natCast_mul,aA (by omega) (by omega)]
  have w1:IntKind.i64.wrap ((i:Int)-1)=(i:Int)-1:=aA (by omega) (by omega)
  have hM:=f161 G D a b ((i*D.length:Nat):Int) (by omega) (by omega) (by omega)
  obtain⟨mk,bu⟩:∃mk,aX a b D ((i*D.length:Nat):Int)=mk:=⟨_,rfl⟩
  have d2:mk.length=D.length:=by rw[←bu,cH]
  rw[bu]at an hM
  obtain⟨Lj,bk⟩:∃Lj,L (i+1)=Lj:=⟨_,rfl⟩
  rw[bk]at an Y hR J bs
  simp only[bk,d0]at e0 ⊢
  obtain⟨o2,bb⟩:∃o2,(if cap=p+E then 0 else 0+(p+E)*4)=o2:=⟨_,rfl⟩
  have dd:Lj.length<=cap:=J
  have e3:(i:Int)<(ps.length:Int):=by omega
  have d1:o2=(p+E)*4\/p+E=Lj.length/\o2=0:=by
   subst bb
   split
   ·exact .inr ⟨by omega,rfl⟩
   ·exact .inl (by omega)
  obtain⟨A,hA⟩:∃A,(Lj.map Wd.cs).take p=A:=⟨_,rfl⟩
  obtain⟨B,hB⟩:∃B,(Lj.map Wd.cs).drop (p+E)=B:=⟨_,rfl⟩
  have O:=hR.pre (l:=p) (by omega)
  have X:=hR.suf Y d1
  rw[hA]at O
  rw[hB]at X
  have d3:B.length<=100100000:=by rw[←hB,length_drop,length_map];omega
  have bi:=X.row
  have I:(L i).map Wd.cs=A++(mk.map Wd.cs++B):=by rw[an,map_append,map_append,map_take,map_drop,hA,hB]
  have bh:A.length=p:=O.len
  have F:(L i).length=p+(mk.length+B.length):=by
   have:=congrArg List.length I
   rw[length_map,length_append,length_append,length_map,bh]at this
   exact this
  obtain⟨z0,Z,ac⟩:∃z0,cK Tryz.prog 33=some z0/\z0.length=4:=⟨[.str [],.int .i64 0,.int .i64 0,.int .i64 0],by kernel_rfl,rfl⟩
  rcases Classical.em (mk=[])with hm0|hm0
  ·subst hm0
   simp only[map_nil,nil_append,length_nil,Nat.zero_add]at I F hM
   (repeat' (first|(with_reducible first|refine AI (by omega) ?_|refine aa hM ?_)|simp only[EVz,seval,↓reduceIte,EV6,EV7,e0,ah,wg,wm,w1]|(with_reducible first|refine ae ?_ ?_|refine af ?_)|(refine aW (e:=33) (sz:=4) (l:=p+E) (h:=Lj.length) (m:=cap) o2 (Lj.length-(p+E)) (cap-(p+E)) (by kernel_rfl) (by kernel_rfl) rfl ⟨_,rfl⟩ rfl rfl (λh=>by cases h) Y J (Nat.le_refl _) bb rfl rfl ?_)|(refine aW (e:=33) (sz:=4) (l:=0) (h:=p) (m:=p) 0 p p (by kernel_rfl) (by kernel_rfl) rfl rfl ⟨_,rfl⟩ ⟨_,rfl⟩ (λ_=>rfl) (by omega) (by omega) (by omega) (by split<;>rfl) rfl rfl ?_)|(refine nz (e:=33) (e':=33) (sz:=4) (bytes:=40) (b:=b1) (n:=p) (cap:=p) (rows:=A) (cs:=cs) (z:=z0) (by kernel_rfl) (by kernel_rfl) (by kernel_rfl) Z ac (by decide) (by decide) rfl (if_pos rfl) O (by omega) (Nat.le_refl _) (.inl ⟨rfl,rfl⟩) (by omega) ?_)|(refine js (e:=33) (e':=33) (sz:=4) (bytes:=40) (b:=b1) (n:=p) (cap:=p) (rows:=A) (ys:=B) (cs:=cs) (z:=z0) (by kernel_rfl) (by kernel_rfl) (by kernel_rfl) Z ac (by decide) (by decide) rfl (if_pos rfl) O (by omega) (by omega) (.inr ⟨b1,o2,_,_,33,cs,rfl,if_pos rfl,X⟩) bi (by omega) (λb' N cs' σ' g1 g2 g3 g4 g5=>?_))))
   all_goals
    refine⟨(i,b',N,cs'),⟨by simp only;omega,?_,g2,?_,g4⟩,Nat.lt_succ_self i,?_⟩
    ·simp only[I,F];exact g1
    ·simp only[F];exact g3
    ·simp only[F]
     refine Weak.sub ?_
     rcases g5 with⟨rfl,rfl⟩|⟨_,rfl⟩
     ·simp only[Store.set,if_true]
      exact SubN.refl _
     ·exact SubN.cons (SubN.nil _) _
  ·obtain⟨M,bm⟩:∃M,mk.map Wd.cs=M:=⟨_,rfl⟩
   have d4:M.length=mk.length:=by rw[←bm,length_map]
   have dl:1<=mk.length:=length_pos_iff.2 hm0
   have ds:mk.length<=1000:=by omega
   rw[bm]at hM I
   (repeat' (first|(with_reducible first|refine AI (by omega) ?_|refine aa hM ?_)|simp only[EVz,seval,↓reduceIte,EV6,EV7,e0,ah,wg,wm,w1]|(with_reducible first|refine ae ?_ ?_|refine af ?_)|(refine aW (e:=33) (sz:=4) (l:=p+E) (h:=Lj.length) (m:=cap) o2 (Lj.length-(p+E)) (cap-(p+E)) (by kernel_rfl) (by kernel_rfl) rfl ⟨_,rfl⟩ rfl rfl (λh=>by cases h) Y J (Nat.le_refl _) bb rfl rfl ?_)|(refine aW (e:=33) (sz:=4) (l:=0) (h:=p) (m:=p) 0 p p (by kernel_rfl) (by kernel_rfl) rfl rfl ⟨_,rfl⟩ ⟨_,rfl⟩ (λ_=>rfl) (by omega) (by omega) (by omega) (by split<;>rfl) rfl rfl ?_)|(refine eL (e:=33) (e':=33) (sz:=4) (bytes:=40) (b:=b1) (o:=0) (n:=p) (cap:=p) (rows:=A) (ys:=M) (cs:=cs) (z:=z0) (by kernel_rfl) (by kernel_rfl) (by kernel_rfl) Z ac (by decide) (by decide) rfl (if_pos rfl) O (by omega) (.inl ⟨rfl,rfl⟩) (by omega) (λh=>by omega) (λ_ b2 be ch f0 f1 f2 f3 f4=>?_))|(refine js (e:=33) (e':=33) (sz:=4) (bytes:=40) (b:=b2) (n:=p+M.length) (cap:=be) (rows:=A++M) (ys:=B) (cs:=(A++M).flatten++ch) (z:=z0) (by kernel_rfl) (by kernel_rfl) (by kernel_rfl) Z ac (by decide) (by decide) rfl (if_pos rfl) (RowsAt.all f3 (by rw[length_append,bh])) (by rw[f4];exact Nat.le_refl _) f2 (.inr ⟨b1,o2,_,_,33,cs,rfl,(if_neg (by simpa[Store.keys]using f0)).trans (if_pos rfl),X⟩) bi (by omega) (λb' N cs' σ' g1 g2 g3 g4 g5=>?_))))
   all_goals
    have V:p+(mk.length+B.length)=p+M.length+B.length:=by omega
    rw[append_assoc]at g1
    refine⟨(i,b',N,cs'),⟨by simp only;omega,?_,g2,?_,g4⟩,Nat.lt_succ_self i,?_⟩
    ·simp only[I,F,V];exact g1
    ·simp only[F,V];exact g3
    ·simp only[F,V]
     refine Weak.sub ?_
     rcases g5 with⟨rfl,rfl⟩|⟨_,rfl⟩
     ·simp only[Store.set,if_true]
      exact SubN.cons (SubN.nil _) _
     ·exact SubN.cons (SubN.nil _) _
end
theorem nv (w:List Wd) (D:List (List UInt8)) (a b:Int) (E:Nat) (ps:List Nat) (h:Gaps w.length E 0 ps):putL w D a b E ps 0=fJ w D a b E 0 ps 0:=by
 rw[i6 w D a b E ps 0 0 h];simp
theorem editE_two (w:List Wd) (x:Itm) (a b:Int) (E:x.kind=2) (D:x.old≠[]):bJ w x a b=if cF (occs w x.old) x.nth=[]then ([],4)else if 256<(putL w x.new a b x.old.length (cF (occs w x.old) x.nth) 0).length then ([],6)else (putL w x.new a b x.old.length (cF (occs w x.old) x.nth) 0,0):=by
 unfold bJ
 rw[if_neg (by rintro⟨h,_⟩;omega),if_neg (show ¬x.kind=3 by omega),nv _ _ _ _ _ _ (eD (gM D))]
theorem nn (w:List Wd) (x:Itm) (a b:Int) (E:x.kind=3) (D:x.old≠[]):bJ w x a b=if cF (occs w x.old) x.nth=[]then ([],4)else if 256<(putL w x.new a b 0 ((cF (occs w x.old) x.nth).map (· +x.old.length)) 0).length then ([],6)else (putL w x.new a b 0 ((cF (occs w x.old) x.nth).map (· +x.old.length)) 0,0):=by
 unfold bJ
 rw[if_neg (by rintro⟨_,h⟩;exact D h),if_pos E,nv _ _ _ _ _ _ (ie (eD (gM D)))]
theorem ox (w:List Wd) (x:Itm) (a b:Int) (D:x.kind=3) (E:x.old=[]):bJ w x a b=if 256<(putL w x.new a b 0 [0] 0).length then ([],6)else (putL w x.new a b 0 [0] 0,0):=by
 unfold bJ
 have e:putL w x.new a b 0 [0] 0=aX a b x.new 0++w:=by rw[putL,putL];simp
 rw[if_pos ⟨D,E⟩,e]
section
variable (G:Glob)
theorem f157 (w:List Wd) (x:Itm) (a b:Int) (hw:w.length<=256) (Z:x.kind=2) (J:x.old≠[]) (ah:x.old.length<=256) (ac:x.new.length<=256) (hn:0<=x.nth/\x.nth<=256):
  Pure G Tryz.prog 157 [.lst 4 (w.map Wd.cs),.lst 1 (x.old.map srow),.lst 1 (x.new.map srow),.int .i64 x.nth,.int .i64 a,.int .i64 b] (iX (bJ w x a b)):=by
 have E:=f245 G w x.old x.nth (by omega) (by omega) J hn.1 (by omega)
 have T:=eD (nth:=x.nth) (gM (w:=w) J)
 have I:1<=x.old.length:=length_pos_iff.2 J
 have O:=iu I (Nat.zero_le _) T
 rw[editE_two w x a b Z J]
 obtain⟨ps,X⟩:∃ps,cF (occs w x.old) x.nth=ps:=⟨_,rfl⟩
 rw[X]at E T O ⊢
 have F:=f246 G w ps x.old.length x.new a b (by omega) (by omega) (by omega) (by omega) T
 have M:decide ((x.old.length:Int)=0)=false:=decide_eq_false (by omega)
 have N:decide (x.nth<0)=false:=decide_eq_false (by omega)
 refine Pure.w c157 λR D=>?_
 unfold s157 r157
 unfold iX at D
 rcases Classical.em (ps=[])with h0|h0
 ·subst h0
  rw[if_pos rfl]at D
  simp only[map_nil]at E
  (repeat' (first|(with_reducible refine aa E ?_)|simp only[EVz,seval,↓reduceIte,EV6,EV7,M,N]))
  all_goals exact D _ _ (Or.inr ⟨.inr rfl,.inl rfl,trivial⟩)
 ·rw[if_neg h0]at D
  have h1:1<=ps.length:=length_pos_iff.2 h0
  have Y:decide ((ps.length:Int)=0)=false:=decide_eq_false (by omega)
  have V:(ps.map λn:Nat=>[AV.int .i64 (n:Int)])=ps.map prow:=rfl
  rw[V]at E
  unfold lW at F
  generalize putL w x.new a b x.old.length ps 0=q at*
  rcases Classical.em (256<q.length)with h2|h2
  ·rw[if_pos h2]at D F
   (repeat' (first|(with_reducible first|refine aa E ?_|refine aa F ?_)|simp only[EVz,seval,↓reduceIte,EV6,EV7,M,N,Y]))
   all_goals exact D _ _ (Or.inr ⟨.inr rfl,.inl rfl,trivial⟩)
  ·rw[if_neg h2]at D F
   (repeat' (first|(with_reducible first|refine aa E ?_|refine aa F ?_)|simp only[EVz,seval,↓reduceIte,EV6,EV7,M,N,Y]))
   all_goals exact D _ _ (Or.inl (Or.inl rfl))
set_option maxHeartbeats 2000000 in
theorem f159 (w:List Wd) (x:Itm) (a b:Int) (hw:w.length<=256) (hk:x.kind=3) (cp:x.old.length<=256) (cm:x.new.length<=256) (bx:1<=x.new.length) (hn:0<=x.nth/\x.nth<=256) (al:x.old=[]->x.nth=0):
  Pure G Tryz.prog 159 [.lst 4 (w.map Wd.cs),.lst 1 (x.old.map srow),.lst 1 (x.new.map srow),.int .i64 x.nth,.int .i64 a,.int .i64 b] (iX (bJ w x a b)):=by
 have e2:decide (x.nth<0)=false:=decide_eq_false (by omega)
 have e4:decide ((x.new.length:Int)=0)=false:=decide_eq_false (by omega)
 refine Pure.w c159 λR D=>?_
 unfold s159 r159
 unfold iX at D
 rcases Classical.em (x.old=[])with ho|ho
 ·have M:=f246 G w [0] 0 x.new a b (by omega) (by simp) (by omega) (by omega) ⟨Nat.le_refl _,by omega,trivial⟩
  have e5:decide (x.nth=0)=true:=decide_eq_true (al ho)
  have e6:decide (x.nth≠0)=false:=decide_eq_false (by rw[al ho];simp)
  have Y:decide ((x.old.length:Int)=0)=true:=decide_eq_true (by rw[ho];rfl)
  rw[ox w x a b hk ho]at D
  unfold lW at M
  generalize putL w x.new a b 0 [0] 0=q at*
  rcases Classical.em (256<q.length)with E|E
  ·rw[if_pos E]at D M
   (repeat' (first|simp only[EVz,seval,↓reduceIte,EV6,EV7,e2,e4,e5,e6,Y,Z]|simp only[EVz,seval,↓reduceIte,EV6,EV7,e2,e4,e5,e6,Y]|(with_reducible intro bb N;(try(have O:=N;simp only[EVK]at O;(have Z:=O))))|(refine⟨[prow 0],rfl,(by simp[prow]),rfl,?_⟩)|(refine aE M ⟨.inl (.inl rfl),.inl (.inr ⟨rfl,rfl⟩),.inl (.inl rfl),.inl (.inl rfl),.inl (.inl rfl),.inl (.inl rfl),trivial⟩ ?_)))
   all_goals exact D _ _ (Or.inr ⟨.inr rfl,.inl rfl,trivial⟩)
  ·rw[if_neg E]at D M
   (repeat' (first|simp only[EVz,seval,↓reduceIte,EV6,EV7,e2,e4,e5,e6,Y,Z]|simp only[EVz,seval,↓reduceIte,EV6,EV7,e2,e4,e5,e6,Y]|(with_reducible intro bb N;(try(have O:=N;simp only[EVK]at O;(have Z:=O))))|(refine⟨[prow 0],rfl,(by simp[prow]),rfl,?_⟩)|(refine aE M ⟨.inl (.inl rfl),.inl (.inr ⟨rfl,rfl⟩),.inl (.inl rfl),.inl (.inl rfl),.inl (.inl rfl),.inl (.inl rfl),trivial⟩ ?_)))
   all_goals exact D _ _ (Or.inl (Or.inl rfl))
 ·have hP:=f245 G w x.old x.nth (by omega) (by omega) ho hn.1 (by omega)
  have hg:=eD (nth:=x.nth) (gM (w:=w) ho)
  have aw:1<=x.old.length:=length_pos_iff.2 ho
  have bi:=iu aw (Nat.zero_le _) hg
  rw[nn w x a b hk ho]at D
  obtain⟨ps,bp⟩:∃ps,cF (occs w x.old) x.nth=ps:=⟨_,rfl⟩
  rw[bp]at hP hg bi D
  have bo:(ps.map λn:Nat=>[AV.int .i64 (n:Int)])=ps.map prow:=rfl
  rw[bo]at hP
  have ac:∀r∈ps.map prow,r.length=1:=by intro r hr;obtain⟨n,_,rfl⟩:=mem_map.1 hr;rfl
  have hC:=f247 G (ps.map prow) ac (by rw[length_map];omega)
  have M:=f246 G w (ps.map (· +x.old.length)) 0 x.new a b (by omega) (by rw[length_map];omega) (by omega) (by omega) (ie hg)
  have Y:decide ((x.old.length:Int)=0)=false:=decide_eq_false (by omega)
  rcases Classical.em (ps=[])with h0|h0
  ·subst h0
   rw[if_pos rfl]at D
   simp only[map_nil]at hP hC
   (repeat' (first|(with_reducible refine aa hP ?_)|simp only[EVz,seval,↓reduceIte,EV6,EV7,e2,e4,Y]|(refine aZ [] _ hC.v (ax.rfl' _) (SubN.refl _) (λr1 bs h1=>?_))|(obtain⟨ah,cap,rfl,hO⟩:=h1)))
   all_goals exact D _ _ (Or.inr ⟨.inr rfl,.inl rfl,trivial⟩)
  ·rw[if_neg h0]at D
   have h1:1<=ps.length:=length_pos_iff.2 h0
   have e3:decide ((ps.length:Int)=0)=false:=decide_eq_false (by omega)
   have V:(ps.map prow).length=ps.length:=length_map ..
   (repeat' (first|(with_reducible refine aa hP ?_)|simp only[EVz,seval,↓reduceIte,EV6,EV7,e2,e4,Y,e3,V]|(refine av [] [] hC.v (ax.rfl' _) (SubN.refl _) (λr1 bs h1 ch=>?_))|(obtain⟨ah,cap,rfl,⟨hO,_⟩|⟨b1,pad,rfl,rfl,an,bk,d0,bw⟩⟩:=h1)))
   ·exfalso
    exact h0 (by simpa using hO)
   ·obtain⟨C,F⟩:∃C:Nat->List (List AV),C=λi=>((ps.take i).map (· +x.old.length)++ps.drop i).map prow:=⟨_,rfl⟩
    have bd:C 0=ps.map prow:=by rw[F];simp
    have bh:C ps.length=(ps.map (· +x.old.length)).map prow:=by rw[F];simp
    have J:∀i,∀r∈C i,r.length=1:=λi r hr=>by rw[F]at hr;obtain⟨n,_,rfl⟩:=mem_map.1 hr;rfl
    have I:∀i,i<=ps.length->(C i).length=ps.length:=λi hi=>by rw[F];simp;omega
    rw[V]at an
    refine ay ps (λi r (c:Unit)=>True) (λi c=>[(0,.lst 4 (w.map Wd.cs)),(1,.lst 1 (x.old.map srow)),(2,.lst 1 (x.new.map srow)),(4,.int .i64 a),(5,.int .i64 b),(14,.sc (.slice (some ⟨b1,0,none⟩) ps.length cap)),(52,.int .i64 ps.length),(53,.int .i64 i)]) (λi c=>[(b1,.cells 3 ((C i).flatten++pad))]) () trivial (by rw[bd];exact Weak.rfl' _ _) (by omega) (λi p r c _ X bq=>?_) (λc _ bn=>?_)
    ·have hi:=X.lt
     have T:ps[i]? =some p:=by
      have:=X.get p
      rw[getElem?_eq_getElem hi]
      simpa[hi]using this
     have cw:=jY hg T
     have be:(C i)[i]? =some (prow p):=by
      rw[F]
      simp only[getElem?_map]
      rw[getElem?_append_right (by simp;omega)]
      simp only[length_map,length_take,Nat.min_eq_left (Nat.le_of_lt hi),Nat.sub_self,getElem?_drop,Nat.add_zero,T]
      rfl
     have bl:((C i).flatten++pad).drop (0+i*1)= .int .i64 (p:Int)::((C i).flatten++pad).drop (i+1):=by
      have E:=jI (sz:=1) (pad:=pad) (J i) be
      have h3:i<((C i).flatten++pad).length:=by rw[length_append,au _ (J i),I i (by omega)];omega
      rw[Nat.zero_add,Nat.mul_one,drop_eq_getElem_cons h3]
      rw[Nat.mul_one,drop_eq_getElem_cons h3]at E
      simp only[take_succ_cons,take_zero,prow]at E
      injection E with E _
      rw[E]
     have bm:((C i).flatten++pad).length=(ps.map prow).flatten.length+pad.length:=by rw[length_append,au _ (J i),au _ ac,I i (by omega),V]
     have bu:0+i*1+1<=((C i).flatten++pad).length:=by rw[bm,au _ ac,V];omega
     have wp:IntKind.i64.wrap ((p:Int)+(x.old.length:Int))=((p+x.old.length:Nat):Int):=by rw[aA (by omega) (by omega)];omega
     have ba:aH ((C i).flatten++pad) (0+i*1) [.int .i64 ((p+x.old.length:Nat):Int)]=(C (i+1)).flatten++pad:=by
      have h4:C (i+1)=(C i).set i (prow (p+x.old.length)):=by
       have h5:ps.drop i=p::ps.drop (i+1):=by
        rw[drop_eq_getElem_cons hi]
        congr 1
        rw[getElem?_eq_getElem hi]at T
        injection T
       rw[F]
       simp only
       rw[h5,X.take]
       simp only[map_append,map_cons,map_nil]
       rw[set_append_right _ _ (by simp;omega)]
       have h6:i-(List.map prow ((ps.take i).map (· +x.old.length))).length=0:=by simp;omega
       rw[h6]
       simp
      rw[h4,Nat.zero_add]
      exact iK (sz:=1) (pad:=pad) (J i) (by rw[I i (by omega)];exact hi) rfl
     (repeat' (first|(with_reducible refine AI (by omega) ?_)|simp only[EVz,seval,↓reduceIte,EV6,EV7,X.yes,X.le0,X.lt',X.get,bq,bl,wp,ba]|(with_reducible refine af ?_)))
     exact ap X () trivial (Weak.rfl' _ _)
    ·(try simp only[EVz,seval,↓reduceIte,EV6,EV7,bn])
     refine⟨_,_,Weak.freeze (j:=14) (rows:=C ps.length) (pad:=pad) (σ:=[]) rfl (J _) (I _ (Nat.le_refl _)).symm (by rw[I _ (Nat.le_refl _)];exact an) bk,?_⟩
     rw[bh]
     unfold lW at M
     generalize putL w x.new a b 0 (ps.map (· +x.old.length)) 0=q at*
     rcases Classical.em (256<q.length)with E|E
     ·rw[if_pos E]at D M
      (repeat' (first|(with_reducible refine aa M ?_)|simp only[EVz,seval,↓reduceIte,EV6,EV7,Env.set,Env.get]))
      all_goals exact D _ _ (Or.inr ⟨.inr rfl,.inl rfl,trivial⟩)
     ·rw[if_neg E]at D M
      (repeat' (first|(with_reducible refine aa M ?_)|simp only[EVz,seval,↓reduceIte,EV6,EV7,Env.set,Env.get]))
      all_goals exact D _ _ (Or.inl (Or.inl rfl))
end
end Go.Av
