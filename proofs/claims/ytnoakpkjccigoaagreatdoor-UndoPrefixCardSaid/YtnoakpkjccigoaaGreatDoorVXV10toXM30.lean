/-
  UNDO, walks 10: words and headings set; tests ahead of a move.
-/
import Derived.Test.YtnoakpkjccigoaaGreatDoorVXV8toXV9b
import Derived.Test.YtnoakpkjccigoaaGreatDoorVXM27toXV6
namespace Go.Av
open Go Go.RowKit Go.Proofs List
set_option linter.unusedSimpArgs false
set_option linter.unusedVariables false
theorem mov_in {u:U} (h:Good u) {i q:Idd} (hi:i∈u.ids) (D:u.id≠i) (F:q∈u.ids) (E:q∉(fnd i u).ids):q∈(without i u).ids:=by
 obtain⟨M,N,O,A,B,T,I,J⟩:=cN h hi D
 rw[J]
 rw[I]at F
 rcases mem_append.1 F with hm|hm
 ·exact mem_append.2 (.inl hm)
 ·rcases mem_append.1 hm with hm|hm
  ·exact absurd hm E
  ·exact mem_append.2 (.inr hm)
section
variable (G:Glob) (hG:GOk G)
include hG
theorem f66 (u:U) (X:Good u) (i:Idd) (l:List Wd) (N:l.length<1000000):Pure G Tryz.prog 66 [.agg u.cs,.agg i.cs,.lst 4 (l.map Wd.cs)] (aO (wrT u i l (λy=>{y with words:=l}))):=by
 have M:=λb=>f135 G hG u X i l N _ _ _ (v136 G b l N (fnd i u))
 unfold aO at M ⊢
 have F:=U.cs_len (wrT u i l (λy=>{y with words:=l})).1
 generalize (wrT u i l (λy=>{y with words:=l})).1.cs=ys at*
 generalize (wrT u i l (λy=>{y with words:=l})).2=e at*
 have J:ys.take 8=ys:=take_of_length_le (by omega)
 simp only[Idd.cs]at M
 rw[U.cs_eq u]at M ⊢
 refine Pure.w c66 λR V=>?_
 unfold s66 r66
 (repeat' (first|simp only[EVz,seval,↓reduceIte,EV6,EV7,F,J,D]|simp only[EVz,seval,↓reduceIte,EV6,EV7,F,J]|(with_reducible intro T I;(try(have E:=I;simp only[EVK]at E;first|(have D:=AI E D)|(have D:=E))))|(refine ce (M _).v (by refine⟨?_,λO=>?_⟩;(repeat(first|exact aM|(refine aD (by repeat(first|exact mem_cons_self|refine mem_cons_of_mem _ ?_)) ?_)));(simp only[Store.keys,map_cons,map_nil,nodup_cons,mem_cons,not_mem_nil,or_false,not_or,not_false_eq_true,true_and,nodup_nil,and_true,@eq_comm Nat]at O ⊢ <;>simp only[O,not_false_eq_true,and_self])) ?_)|fail))
 all_goals exact V _ _ (.inl (.inl (by rfl)))
theorem f68 (u:U) (X:Good u) (i:Idd) (l:List Wd) (N:l.length<1000000):Pure G Tryz.prog 68 [.agg u.cs,.agg i.cs,.lst 4 (l.map Wd.cs)] (aO (wrT u i l (λy=>{y with head:=l}))):=by
 have M:=λb=>f135 G hG u X i l N _ _ _ (v137 G b l N (fnd i u))
 unfold aO at M ⊢
 have F:=U.cs_len (wrT u i l (λy=>{y with head:=l})).1
 generalize (wrT u i l (λy=>{y with head:=l})).1.cs=ys at*
 generalize (wrT u i l (λy=>{y with head:=l})).2=e at*
 have J:ys.take 8=ys:=take_of_length_le (by omega)
 simp only[Idd.cs]at M
 rw[U.cs_eq u]at M ⊢
 refine Pure.w c68 λR V=>?_
 unfold s68 r68
 (repeat' (first|simp only[EVz,seval,↓reduceIte,EV6,EV7,F,J,D]|simp only[EVz,seval,↓reduceIte,EV6,EV7,F,J]|(with_reducible intro T I;(try(have E:=I;simp only[EVK]at E;first|(have D:=AI E D)|(have D:=E))))|(refine ce (M _).v (by refine⟨?_,λO=>?_⟩;(repeat(first|exact aM|(refine aD (by repeat(first|exact mem_cons_self|refine mem_cons_of_mem _ ?_)) ?_)));(simp only[Store.keys,map_cons,map_nil,nodup_cons,mem_cons,not_mem_nil,or_false,not_or,not_false_eq_true,true_and,nodup_nil,and_true,@eq_comm Nat]at O ⊢ <;>simp only[O,not_false_eq_true,and_self])) ?_)|fail))
 all_goals exact V _ _ (.inl (.inl (by rfl)))
theorem f120 (b:Nat) (u:U) (E:u.Short):ag G Tryz.prog 120 [.sc (.pointer (some ⟨b,0,none⟩))] [(b,.cells 27 u.cs)] λr σ'=>r= .bool (!stP u)/\σ'=[(b,.cells 27 u.cs)]:=by
 have D:=f111 G hG u E
 refine ag.w c120 ?_
 unfold s120 r120
 rw[U.cs_eq u]at D ⊢
 (repeat' (first|(with_reducible refine aa D ?_)|simp only[EVz,seval,↓reduceIte,EV6,EV7]|fail))
 all_goals exact RET.keep rfl (SubN.refl _)
omit hG
theorem f121 (b c d:Nat) (u:U) (I:u.Short) (i q:Idd):ag G Tryz.prog 121 [.sc (.pointer (some ⟨b,0,none⟩)),.sc (.pointer (some ⟨c,0,none⟩)),.sc (.pointer (some ⟨d,0,none⟩))] [(b,.cells 27 u.cs),(c,.cells 23 i.cs),(d,.cells 23 q.cs)] λr σ'=>r= .bool (!hasP i u|| !hasP q u)/\σ'=[(b,.cells 27 u.cs),(c,.cells 23 i.cs),(d,.cells 23 q.cs)]:=by
 have F:=f113 G i u I
 have D:=f113 G q u I
 simp only[Idd.cs]at F D
 generalize hasP i u=t at*
 generalize hasP q u=t2 at*
 refine ag.wn c121 λE=>?_
 simp only[Store.keys,map_cons,map_nil,nodup_cons,mem_cons,not_mem_nil,or_false,not_or]at E
 obtain⟨⟨J,M⟩,N,_⟩:=E
 unfold s121 r121
 rw[U.cs_eq u]at F D ⊢
 (repeat' (first|(with_reducible (refine ai (λh=>?_) (λh=>?_))<;>(try simp only[DZ]at h))|(with_reducible first|refine aa F ?_|refine aa D ?_)|simp only[EVz,seval,↓reduceIte,EV6,EV7,J,M,N]|fail))
 all_goals(refine RET.keep ?_ (SubN.refl _);simp[*])
theorem f126 (D E:Nat) (k:Int) (p:U):ag G Tryz.prog 126 [.sc (.pointer (some ⟨D,0,none⟩)),.sc (.pointer (some ⟨E,0,none⟩))] [(D,.cells 3 [.int .i64 k]),(E,.cells 27 p.cs)] λr σ'=>r= .bool (decide (k<0)||decide ((p.kids.length:Int)<k))/\σ'=[(D,.cells 3 [.int .i64 k]),(E,.cells 27 p.cs)]:=by
 refine ag.wn c126 λF=>?_
 have I:¬D=E:=by simp[Store.keys]at F;exact F
 have J:¬E=D:=λe=>I e.symm
 unfold s126 r126
 rw[U.cs_eq p]
 (repeat' (first|(with_reducible (refine ai (λh=>?_) (λh=>?_))<;>(try simp only[DZ]at h))|simp only[EVz,seval,↓reduceIte,EV6,EV7,I,J]|fail))
 all_goals(refine RET.keep ?_ (SubN.refl _);first|(simp[*];done)|(simp[*];omega))
theorem f127 (D E:Nat) (p x:U) (M:p.kids.length<1000000):ag G Tryz.prog 127 [.sc (.pointer (some ⟨D,0,none⟩)),.sc (.pointer (some ⟨E,0,none⟩))] [(D,.cells 27 p.cs),(E,.cells 27 x.cs)] λr σ'=>r= .bool (taken p.kids x.kind x.label)/\σ'=[(D,.cells 27 p.cs),(E,.cells 27 x.cs)]:=by
 have J:=f128 G p.kids x.kind x.label M
 refine ag.wn c127 λF=>?_
 have I:¬D=E:=by simp[Store.keys]at F;exact F
 have N:¬E=D:=λe=>I e.symm
 unfold s127 r127
 rw[U.cs_eq p,U.cs_eq x]
 (repeat' (first|(with_reducible refine aa J ?_)|simp only[EVz,seval,↓reduceIte,EV6,EV7,I,N]|fail))
 all_goals exact RET.keep rfl (SubN.refl _)
set_option maxHeartbeats 4000000 in
theorem f123 (D F E I:Nat) (p u x:U) (q:Idd) (hu:u.Short) (ac:u.flat.length<=1000000) (hx:x.Short) (ah:x.flat.length<=1000000) (hp:p.kids.length<1000000):
  ag G Tryz.prog 123 [.sc (.pointer (some ⟨D,0,none⟩)),.sc (.pointer (some ⟨F,0,none⟩)),.sc (.pointer (some ⟨E,0,none⟩)),.sc (.pointer (some ⟨I,0,none⟩))]
   [(D,.cells 27 p.cs),(F,.cells 27 u.cs),(E,.cells 23 q.cs),(I,.cells 27 x.cs)]
   λr σ'=>r= .bool (decide (64<=(p.kids.length:Int))||decide (8<((anc q u).length:Int)+1+x.dep))/\σ'=[(D,.cells 27 p.cs),(F,.cells 27 u.cs),(E,.cells 23 q.cs),(I,.cells 27 x.cs)]:=by
 have M:=f124 G q u hu
 have hD:=f125 G x hx.1
 simp only[Idd.cs]at M
 have h1:(anc q u).length<=u.flat.length:=by
  unfold anc
  rw[length_reverse,length_map,length_dropLast]
  have:=eF q u
  omega
 have h3:=x.dep_cnt
 have h5:=x.dep_ge
 unfold U.cnt at h3
 have w1:IntKind.i64.wrap (((anc q u).length:Int)+1)=((anc q u).length:Int)+1:=aA (by omega) (by omega)
 have w2:IntKind.i64.wrap (((anc q u).length:Int)+1+x.dep)=((anc q u).length:Int)+1+x.dep:=aA (by omega) (by omega)
 obtain⟨an,N⟩:∃an,(anc q u).length=an:=⟨_,rfl⟩
 rw[N]at M w1 w2 ⊢
 refine ag.wn c123 λJ=>?_
 simp only[Store.keys,map_cons,map_nil,nodup_cons,mem_cons,not_mem_nil,or_false,not_or]at J
 obtain⟨⟨O,T,V⟩,⟨X,Y⟩,Z,_⟩:=J
 have b1:¬F=D:=λe=>O e.symm
 have b2:¬E=D:=λe=>T e.symm
 have b3:¬I=D:=λe=>V e.symm
 have b4:¬E=F:=λe=>X e.symm
 have b5:¬I=F:=λe=>Y e.symm
 have b6:¬I=E:=λe=>Z e.symm
 unfold s123 r123
 rw[U.cs_eq u]at M ⊢
 rw[U.cs_eq x]at hD ⊢
 rw[U.cs_eq p]
 (repeat' (first|(with_reducible (refine ai (λh=>?_) (λh=>?_))<;>(try simp only[DZ]at h))|(with_reducible first|refine aa M ?_|refine aa hD ?_)|simp only[EVz,seval,↓reduceIte,EV6,EV7,w1,w2,O,T,V,X,Y,Z,b1,b2,b3,b4,b5,b6]|(with_reducible first|refine ae ?_ ?_|refine af ?_)|fail))
 all_goals(refine RET.keep (congrArg AV.bool ?_) (SubN.refl _);first|(rw[decide_eq_true (p:=(64:Int)<=_) (by omega)];rfl)|(rw[decide_eq_false (p:=(64:Int)<=_) (by omega)];rfl))
end
theorem nd2 {a b:Nat} {x y:AObj} {σ:Store} (h:(Store.keys ((a,x)::(b,y)::σ)).Nodup):(¬a∈Store.keys ((b,y)::σ))/\(¬b∈Store.keys σ):=by
 simp only[Store.keys,map_cons,nodup_cons]at h ⊢
 exact⟨h.1,h.2.1⟩
section
variable (G:Glob) (hG:GOk G)
include hG
set_option maxHeartbeats 8000000 in
theorem mv_ok (u:U) (hg:Good u) (h0:u.kind=0) (i q:Idd) (j:Nat) (hi:i∈u.ids) (hq:q∈u.ids) (n1:¬i=u.id) (n2:¬q∈(fnd i u).ids) (n3:nests (fnd q u).kind (fnd i u).kind=true)
  (he:(if (j:Int)<0\/((fnd q (without i u)).kids.length:Int)<j then 3 else if taken (fnd q (without i u)).kids (fnd i u).kind (fnd i u).label=true then 10 else if 64<=(fnd q (without i u)).kids.length\/8<((anc q (without i u)).length:Int)+1+(fnd i u).dep then 6 else (0:Int))=0):
  Pure G Tryz.prog 62 [.agg u.cs,.agg i.cs,.agg q.cs,.int .i64 (j:Int)] (aO (U.wth q (λy=>{y with kids:=insAt y.kids j (fnd i u)}) (without i u),0)):=by
 have hs:=hg.short
 have be:=d6 hg h0
 have hU:=U.cs_eq u
 have hF:=cj G i u hs
 have T:=cj G q u hs
 have c1:=λb=>f120 G hG b u hs
 have c2:=λb c d=>f121 G b c d u hs i q
 have M:=λf1 f2=>kf u i q f1 f2
 simp only[be]at M
 have Z:=fb hs i
 have hH:=f113 G q (fnd i u) Z
 have hN:=f122 G hG (fnd q u).kind (fnd i u).kind
 simp only[Idd.cs]at hF T hH c2
 have g1:¬(i∉u.ids\/q∉u.ids):=by simp[hi,hq]
 simp only[if_neg g1]at M
 have bl:=U.cs_len (fnd i u)
 have O:u.id≠i:=λe=>n1 e.symm
 have e1:decide (i=u.id)=false:=decide_eq_false n1
 rw[n3]at hN
 rw[show hasP q (fnd i u)=false from decide_eq_false n2]at hH
 obtain⟨gr,_,_,_⟩:=cN hg hi O
 have bd:=mov_in hg hi O hq n2
 have Y:=gr.short
 have V:=f115 G u hs hg.nd i hi O (λp hp=>cT (hg.node p hp))
 have J:=cj G q (without i u) Y
 have bh:=(hs.node (aP u hg.nd hi)).1.2
 have bi:=gq gr q
 have aw:j<=(fnd q (without i u)).kids.length:=by
  by_cases g1:(j:Int)<0\/((fnd q (without i u)).kids.length:Int)<j
  ·rw[if_pos g1]at he;cases he
  ·omega
 have c3:=λa b c d=>f123 G a b c d (fnd q (without i u)) (without i u) (fnd i u) q Y (by have:=gr.cnt;omega) Z (by omega) (by omega)
 have c4:=λa b=>f126 G a b (j:Int) (fnd q (without i u))
 have c5:=λa b=>f127 G a b (fnd q (without i u)) (fnd i u) (by omega)
 have D:=λf1 f2 f3=>kb (fnd q (without i u)) (fnd i u) (j:Int) ((anc q (without i u)).length:Int) f1 f2 f3
 simp only[he]at D
 have hD:=λa b=>f118 G _ _ _ q (without i u) Y gr.nd bd (v212 G a b j (fnd i u) (fnd q (without i u)) aw (by omega) Z)
 have ac:=f119 G (j:Int) (fnd i u)
 have ah:=U.cs_len (U.wth q (λy=>{y with kids:=insAt y.kids j (fnd i u)}) (without i u))
 clear he
 unfold aO
 simp only
 generalize (U.wth q (λy=>{y with kids:=insAt y.kids j (fnd i u)}) (without i u)).cs=ys at*
 have al:ys.take 8=ys:=take_of_length_le (by omega)
 generalize (anc q (without i u)).length=n at*
 obtain⟨X,hX⟩:∃X,fnd i u=X:=⟨_,rfl⟩
 obtain⟨P,hP⟩:∃P,fnd q u=P:=⟨_,rfl⟩
 obtain⟨W,hW⟩:∃W,without i u=W:=⟨_,rfl⟩
 rw[hW]at V J
 simp only[hW]at c3 c4 c5 D hD
 obtain⟨Q,hQ⟩:∃Q,fnd q W=Q:=⟨_,rfl⟩
 rw[hQ]at J
 simp only[hQ]at c3 c4 c5 D hD
 rw[hX]at hF hH hN ac
 simp only[hX]at c3 c5 D hD
 rw[hP]at T hN
 simp only[Idd.cs]at V J c3 hD
 rw[U.cs_eq X]at hF hH c3 c5 hD ac
 rw[U.cs_eq P]at T
 rw[U.cs_eq W]at V J c3 hD
 rw[U.cs_eq Q]at J c3 c4 c5
 rw[hU]at c1 c2 hF T V ⊢
 clear hU bi bh Y bd gr O g1 Z n1 n2 n3 hg hi hq hs hW hQ hX hP aw
 refine Pure.w c62 λR hR=>?_
 unfold s62 r62
 (repeat' (first|(with_reducible (first|refine ab (λh=>?_) (λh=>?_)|refine ai (λh=>?_) (λh=>?_)|refine aj (λh=>?_) (λh=>?_))<;>(try simp only[DZ]at h))|(with_reducible refine AI (by omega) ?_)|simp only[EVz,seval,↓reduceIte,EV6,EV7,E]|simp only[EVz,seval,↓reduceIte,EV6,EV7]|(with_reducible intro an I;(try(have F:=I;simp only[EVK]at F;first|(have E:=AI F E)|(have E:=F))))|(with_reducible first|refine ae ?_ ?_|refine af ?_)|(refine⟨[[.sc _,.int .i64 _],[.sc _,.int .i64 _]],rfl,(by simp),rfl,?_⟩)|(exfalso;omega)))
 refine bG G (l:=[(_,!stP u,1),(_,(!hasP i u|| !hasP q u),4)]) rfl (by simp) (λy hy=>?_) ?_
 ·simp only[mem_cons,not_mem_nil,or_false]at hy
  rcases hy with rfl|rfl
  ·exact⟨_,(by refine⟨?_,λN=>?_⟩;(repeat(first|exact aM|(refine aD (by repeat(first|exact mem_cons_self|refine mem_cons_of_mem _ ?_)) ?_)));(simp only[Store.keys,map_cons,map_nil,nodup_cons,mem_cons,not_mem_nil,or_false,not_or,not_false_eq_true,true_and,nodup_nil,and_true,@eq_comm Nat]at N ⊢ <;>simp only[N,not_false_eq_true,and_self])),_,_,_,rfl,c1 _⟩
  ·exact⟨_,(by refine⟨?_,λN=>?_⟩;(repeat(first|exact aM|(refine aD (by repeat(first|exact mem_cons_self|refine mem_cons_of_mem _ ?_)) ?_)));(simp only[Store.keys,map_cons,map_nil,nodup_cons,mem_cons,not_mem_nil,or_false,not_or,not_false_eq_true,true_and,nodup_nil,and_true,@eq_comm Nat]at N ⊢ <;>simp only[N,not_false_eq_true,and_self])),_,_,_,rfl,c2 _ _ _⟩
 ·rw[be,M]
  clear c1 c2 M
  (repeat' (first|(with_reducible (first|refine ab (λh=>?_) (λh=>?_)|refine ai (λh=>?_) (λh=>?_)|refine aj (λh=>?_) (λh=>?_))<;>(try simp only[DZ]at h))|(with_reducible first|refine AI (by omega) ?_|refine aa hF ?_|refine aa T ?_|refine aa hH ?_|refine aa hN ?_|refine aa V ?_|refine aa J ?_)|simp only[EVz,seval,↓reduceIte,EV6,EV7,gv,e1,E]|simp only[EVz,seval,↓reduceIte,EV6,EV7,gv,e1]|(with_reducible intro an I;(try(have F:=I;simp only[EVK]at F;first|(have E:=AI F E)|(have E:=F))))|(with_reducible first|refine ae ?_ ?_|refine af ?_)|(refine⟨[[.sc _,.int .i64 _],[.sc _,.int .i64 _],[.sc _,.int .i64 _]],rfl,(by simp),rfl,?_⟩)|(exfalso;omega)))
  refine bG G (l:=[(_,(decide ((j:Int)<0)||decide ((Q.kids.length:Int)<j)),3),(_,taken Q.kids X.kind X.label,10),(_,(decide (64<=(Q.kids.length:Int))||decide (8<(n:Int)+1+X.dep)),6)]) rfl (by simp) (λy hy=>?_) ?_
  ·simp only[mem_cons,not_mem_nil,or_false]at hy
   rcases hy with rfl|rfl|rfl
   ·exact⟨_,(by refine⟨?_,λN=>?_⟩;(repeat(first|exact aM|(refine aD (by repeat(first|exact mem_cons_self|refine mem_cons_of_mem _ ?_)) ?_)));(simp only[Store.keys,map_cons,map_nil,nodup_cons,mem_cons,not_mem_nil,or_false,not_or,not_false_eq_true,true_and,nodup_nil,and_true,@eq_comm Nat]at N ⊢ <;>simp only[N,not_false_eq_true,and_self])),_,_,_,rfl,c4 _ _⟩
   ·exact⟨_,(by refine⟨?_,λN=>?_⟩;(repeat(first|exact aM|(refine aD (by repeat(first|exact mem_cons_self|refine mem_cons_of_mem _ ?_)) ?_)));(simp only[Store.keys,map_cons,map_nil,nodup_cons,mem_cons,not_mem_nil,or_false,not_or,not_false_eq_true,true_and,nodup_nil,and_true,@eq_comm Nat]at N ⊢ <;>simp only[N,not_false_eq_true,and_self])),_,_,_,rfl,c5 _ _⟩
   ·exact⟨_,(by refine⟨?_,λN=>?_⟩;(repeat(first|exact aM|(refine aD (by repeat(first|exact mem_cons_self|refine mem_cons_of_mem _ ?_)) ?_)));(simp only[Store.keys,map_cons,map_nil,nodup_cons,mem_cons,not_mem_nil,or_false,not_or,not_false_eq_true,true_and,nodup_nil,and_true,@eq_comm Nat]at N ⊢ <;>simp only[N,not_false_eq_true,and_self])),_,_,_,rfl,c3 _ _ _ _⟩
  ·rw[D]
   clear c3 c4 c5 D hF T hH hN V J
   (repeat' (first|(with_reducible (first|refine ab (λh=>?_) (λh=>?_)|refine ai (λh=>?_) (λh=>?_)|refine aj (λh=>?_) (λh=>?_))<;>(try simp only[DZ]at h))|(with_reducible refine AI (by omega) ?_)|simp only[EVz,seval,↓reduceIte,EV6,EV7,ah,al,E]|simp only[EVz,seval,↓reduceIte,EV6,EV7,ah,al]|(with_reducible intro an I;(try(have F:=I;simp only[EVK]at F;first|(have E:=AI F E)|(have E:=F))))|(with_reducible first|refine ae ?_ ?_|refine af ?_)|(refine av [] _ ac.v (ax.rfl' _) (SubN.refl _) (λr σ' hh bk=>?_);obtain⟨ba,bb,rfl,rfl⟩:=hh;(have h2:=nd2 bk);(simp only[append_eq,cons_append,nil_append,EVK]at h2);(have E:=AI h2 E))|(refine ce (hD _ _).v (SubN.cons (SubN.cons (SubN.nil _) _) _) ?_)|(exfalso;omega)))
   all_goals exact hR _ _ (.inl (.inl (by first|rfl|(simp[ah,al];done))))
end
section
variable (G:Glob) (hG:GOk G)
include hG
set_option maxHeartbeats 8000000 in
theorem f62 (u:U) (hg:Good u) (h0:u.kind=0) (i q:Idd) (k:Int):Pure G Tryz.prog 62 [.agg u.cs,.agg i.cs,.agg q.cs,.int .i64 k] (aO (movT u i q k)):=by
 have hs:=hg.short
 have al:=d6 hg h0
 have hU:=U.cs_eq u
 have Y:=cj G i u hs
 have M:=cj G q u hs
 have c1:=λb=>f120 G hG b u hs
 have c2:=λb c d=>f121 G b c d u hs i q
 have N:=λf1 f2=>kf u i q f1 f2
 simp only[al]at N
 have bb:=fb hs i
 have Z:=f113 G q (fnd i u) bb
 have hN:=f122 G hG (fnd q u).kind (fnd i u).kind
 simp only[Idd.cs]at Y M Z c2
 unfold movT
 rw[al,if_neg (by simp)]
 by_cases T:i∉u.ids\/q∉u.ids
 ·rw[if_pos T]
  simp only[if_pos T]at N
  rw[hU]at c1 c2 ⊢
  refine Pure.wL c62 λR hR=>?_
  unfold s62 r62
  (repeat' (first|(with_reducible (first|refine ab (λh=>?_) (λh=>?_)|refine ai (λh=>?_) (λh=>?_)|refine aj (λh=>?_) (λh=>?_))<;>(try simp only[DZ]at h))|(with_reducible refine AI (by omega) ?_)|simp only[EVz,seval,↓reduceIte,EV6,EV7,D]|simp only[EVz,seval,↓reduceIte,EV6,EV7]|(with_reducible intro O F;(try(have E:=F;simp only[EVK]at E;first|(have D:=AI E D)|(have D:=E))))|(with_reducible first|refine ae ?_ ?_|refine af ?_)|(refine⟨[[.sc _,.int .i64 _],[.sc _,.int .i64 _]],rfl,(by simp),rfl,?_⟩)|(exfalso;omega)))
  refine bG G (l:=[(_,!stP u,1),(_,(!hasP i u|| !hasP q u),4)]) rfl (by simp) (λy hy=>?_) ?_
  ·simp only[mem_cons,not_mem_nil,or_false]at hy
   rcases hy with rfl|rfl
   ·exact⟨_,(by refine⟨?_,λI=>?_⟩;(repeat(first|exact aM|(refine aD (by repeat(first|exact mem_cons_self|refine mem_cons_of_mem _ ?_)) ?_)));(simp only[Store.keys,map_cons,map_nil,nodup_cons,mem_cons,not_mem_nil,or_false,not_or,not_false_eq_true,true_and,nodup_nil,and_true,@eq_comm Nat]at I ⊢ <;>simp only[I,not_false_eq_true,and_self])),_,_,_,rfl,c1 _⟩
   ·exact⟨_,(by refine⟨?_,λI=>?_⟩;(repeat(first|exact aM|(refine aD (by repeat(first|exact mem_cons_self|refine mem_cons_of_mem _ ?_)) ?_)));(simp only[Store.keys,map_cons,map_nil,nodup_cons,mem_cons,not_mem_nil,or_false,not_or,not_false_eq_true,true_and,nodup_nil,and_true,@eq_comm Nat]at I ⊢ <;>simp only[I,not_false_eq_true,and_self])),_,_,_,rfl,c2 _ _ _⟩
  ·rw[al,N]
   (repeat' (first|(with_reducible (first|refine ab (λh=>?_) (λh=>?_)|refine ai (λh=>?_) (λh=>?_)|refine aj (λh=>?_) (λh=>?_))<;>(try simp only[DZ]at h))|(with_reducible refine AI (by omega) ?_)|simp only[EVz,seval,↓reduceIte,EV6,EV7,D]|simp only[EVz,seval,↓reduceIte,EV6,EV7]|(with_reducible intro O F;(try(have E:=F;simp only[EVK]at E;first|(have D:=AI E D)|(have D:=E))))|(with_reducible first|refine ae ?_ ?_|refine af ?_)|(exfalso;omega)))
   all_goals exact hR _ _ (dG 4)
 ·rw[if_neg T]
  simp only[if_neg T]at N
  rw[not_or,Classical.not_not,Classical.not_not]at T
  obtain⟨hi,hq⟩:=T
  have bh:=U.cs_len (fnd i u)
  by_cases g2:i=u.id\/q∈(fnd i u).ids\/nests (fnd q u).kind (fnd i u).kind=false
  ·rw[if_pos g2]
   have bd:∀t1 t2 t3:Bool,decide (i=u.id)=t1->hasP q (fnd i u)=t2->nests (fnd q u).kind (fnd i u).kind=t3->(t1||(t2|| !t3))=true->Pure G Tryz.prog 62 [.agg u.cs,.agg i.cs,.agg q.cs,.int .i64 k] (aO (noU,9)):=by
    intro t1 t2 t3 e1 e2 e3 e4
    rw[e2]at Z
    rw[e3]at hN
    obtain⟨X,hX⟩:∃X,fnd i u=X:=⟨_,rfl⟩
    obtain⟨P,hP⟩:∃P,fnd q u=P:=⟨_,rfl⟩
    rw[hX]at Y Z hN
    rw[hP]at M hN
    rw[U.cs_eq X]at Y Z
    rw[U.cs_eq P]at M
    rw[hU]at c1 c2 Y M ⊢
    refine Pure.wL c62 λR hR=>?_
    unfold s62 r62
    (repeat' (first|(with_reducible (first|refine ab (λh=>?_) (λh=>?_)|refine ai (λh=>?_) (λh=>?_)|refine aj (λh=>?_) (λh=>?_))<;>(try simp only[DZ]at h))|(with_reducible refine AI (by omega) ?_)|simp only[EVz,seval,↓reduceIte,EV6,EV7,D]|simp only[EVz,seval,↓reduceIte,EV6,EV7]|(with_reducible intro O F;(try(have E:=F;simp only[EVK]at E;first|(have D:=AI E D)|(have D:=E))))|(with_reducible first|refine ae ?_ ?_|refine af ?_)|(refine⟨[[.sc _,.int .i64 _],[.sc _,.int .i64 _]],rfl,(by simp),rfl,?_⟩)|(exfalso;omega)))
    refine bG G (l:=[(_,!stP u,1),(_,(!hasP i u|| !hasP q u),4)]) rfl (by simp) (λy hy=>?_) ?_
    ·simp only[mem_cons,not_mem_nil,or_false]at hy
     rcases hy with rfl|rfl
     ·exact⟨_,(by refine⟨?_,λI=>?_⟩;(repeat(first|exact aM|(refine aD (by repeat(first|exact mem_cons_self|refine mem_cons_of_mem _ ?_)) ?_)));(simp only[Store.keys,map_cons,map_nil,nodup_cons,mem_cons,not_mem_nil,or_false,not_or,not_false_eq_true,true_and,nodup_nil,and_true,@eq_comm Nat]at I ⊢ <;>simp only[I,not_false_eq_true,and_self])),_,_,_,rfl,c1 _⟩
     ·exact⟨_,(by refine⟨?_,λI=>?_⟩;(repeat(first|exact aM|(refine aD (by repeat(first|exact mem_cons_self|refine mem_cons_of_mem _ ?_)) ?_)));(simp only[Store.keys,map_cons,map_nil,nodup_cons,mem_cons,not_mem_nil,or_false,not_or,not_false_eq_true,true_and,nodup_nil,and_true,@eq_comm Nat]at I ⊢ <;>simp only[I,not_false_eq_true,and_self])),_,_,_,rfl,c2 _ _ _⟩
    ·rw[al,N]
     cases t1
     ·cases t2
      ·cases t3
       ·(repeat' (first|(with_reducible (first|refine ab (λh=>?_) (λh=>?_)|refine ai (λh=>?_) (λh=>?_)|refine aj (λh=>?_) (λh=>?_))<;>(try simp only[DZ]at h))|(with_reducible first|refine AI (by omega) ?_|refine aa Y ?_|refine aa M ?_|refine aa Z ?_|refine aa hN ?_)|simp only[EVz,seval,↓reduceIte,EV6,EV7,gv,e1,D]|simp only[EVz,seval,↓reduceIte,EV6,EV7,gv,e1]|(with_reducible intro O F;(try(have E:=F;simp only[EVK]at E;first|(have D:=AI E D)|(have D:=E))))|(with_reducible first|refine ae ?_ ?_|refine af ?_)|(exfalso;omega)))
        all_goals exact hR _ _ (dG 9)
       ·cases e4
      ·(repeat' (first|(with_reducible (first|refine ab (λh=>?_) (λh=>?_)|refine ai (λh=>?_) (λh=>?_)|refine aj (λh=>?_) (λh=>?_))<;>(try simp only[DZ]at h))|(with_reducible first|refine AI (by omega) ?_|refine aa Y ?_|refine aa M ?_|refine aa Z ?_|refine aa hN ?_)|simp only[EVz,seval,↓reduceIte,EV6,EV7,gv,e1,D]|simp only[EVz,seval,↓reduceIte,EV6,EV7,gv,e1]|(with_reducible intro O F;(try(have E:=F;simp only[EVK]at E;first|(have D:=AI E D)|(have D:=E))))|(with_reducible first|refine ae ?_ ?_|refine af ?_)|(exfalso;omega)))
       all_goals exact hR _ _ (dG 9)
     ·(repeat' (first|(with_reducible (first|refine ab (λh=>?_) (λh=>?_)|refine ai (λh=>?_) (λh=>?_)|refine aj (λh=>?_) (λh=>?_))<;>(try simp only[DZ]at h))|(with_reducible first|refine AI (by omega) ?_|refine aa Y ?_|refine aa M ?_|refine aa Z ?_|refine aa hN ?_)|simp only[EVz,seval,↓reduceIte,EV6,EV7,gv,e1,D]|simp only[EVz,seval,↓reduceIte,EV6,EV7,gv,e1]|(with_reducible intro O F;(try(have E:=F;simp only[EVK]at E;first|(have D:=AI E D)|(have D:=E))))|(with_reducible first|refine ae ?_ ?_|refine af ?_)|(exfalso;omega)))
      all_goals exact hR _ _ (dG 9)
   refine bd _ _ _ rfl rfl rfl ?_
   rcases g2 with h|h|h
   ·simp[h]
   ·simp[hasP,h]
   ·simp[h]
  ·rw[if_neg g2]
   rw[not_or,not_or]at g2
   obtain⟨n1,n2,n3⟩:=g2
   have n3:nests (fnd q u).kind (fnd i u).kind=true:=by simpa using n3
   have ah:u.id≠i:=λe=>n1 e.symm
   have e1:decide (i=u.id)=false:=decide_eq_false n1
   rw[n3]at hN
   rw[show hasP q (fnd i u)=false from decide_eq_false n2]at Z
   obtain⟨gr,_,_,_⟩:=cN hg hi ah
   have be:=mov_in hg hi ah hq n2
   have ba:=gr.short
   have ac:=f115 G u hs hg.nd i hi ah (λp hp=>cT (hg.node p hp))
   have V:=cj G q (without i u) ba
   have bi:=(hs.node (aP u hg.nd hi)).1.2
   have an:=gq gr q
   have c3:=λa b c d=>f123 G a b c d (fnd q (without i u)) (without i u) (fnd i u) q ba (by have:=gr.cnt;omega) bb (by omega) (by omega)
   have c4:=λa b=>f126 G a b k (fnd q (without i u))
   have c5:=λa b=>f127 G a b (fnd q (without i u)) (fnd i u) (by omega)
   have J:=λf1 f2 f3=>kb (fnd q (without i u)) (fnd i u) k ((anc q (without i u)).length:Int) f1 f2 f3
   rw[p8 be]
   obtain⟨X,hX⟩:∃X,fnd i u=X:=⟨_,rfl⟩
   obtain⟨P,hP⟩:∃P,fnd q u=P:=⟨_,rfl⟩
   obtain⟨W,hW⟩:∃W,without i u=W:=⟨_,rfl⟩
   rw[hW]at ac V an ⊢
   simp only[hW]at c3 c4 c5 J
   obtain⟨Q,hQ⟩:∃Q,fnd q W=Q:=⟨_,rfl⟩
   rw[hQ]at V an ⊢
   simp only[hQ]at c3 c4 c5 J
   rw[hX]at Y Z hN ⊢
   simp only[hX]at c3 c5 J
   rw[hP]at M hN
   obtain⟨n,I⟩:∃n,(anc q W).length=n:=⟨_,rfl⟩
   simp only[I]at c3 J
   rw[I]
   obtain⟨e,he⟩:∃e,(if k<0\/(Q.kids.length:Int)<k then 3 else if taken Q.kids X.kind X.label=true then 10 else if 64<=Q.kids.length\/8<(n:Int)+1+X.dep then 6 else (0:Int))=e:=⟨_,rfl⟩
   simp only[he]at J
   have aw:(if k<0\/(Q.kids.length:Int)<k then (noU,(3:Int))else if taken Q.kids X.kind X.label=true then (noU,10)else if 64<=Q.kids.length\/8<(n:Int)+1+X.dep then (noU,6)else (U.wth q (λy=>{y with kids:=insAt y.kids k.toNat X}) W,0))=if e≠0 then (noU,e)else (U.wth q (λy=>{y with kids:=insAt y.kids k.toNat X}) W,0):=by
    subst he
    by_cases T:k<0\/(Q.kids.length:Int)<k
    ·rw[if_pos T,if_pos T,if_pos (by simp)]
    rw[if_neg T,if_neg T]
    by_cases g2:taken Q.kids X.kind X.label=true
    ·rw[if_pos g2,if_pos g2,if_pos (by simp)]
    rw[if_neg g2,if_neg g2]
    by_cases g3:64<=Q.kids.length\/8<(n:Int)+1+X.dep
    ·rw[if_pos g3,if_pos g3,if_pos (by simp)]
    rw[if_neg g3,if_neg g3,if_neg (by simp)]
   rw[aw]
   simp only[Idd.cs]at ac V c3
   by_cases hE:e=0
   ·subst hE
    rw[if_neg (by simp)]
    have hk:0<=k/\k<=Q.kids.length:=by
     by_cases T:k<0\/(Q.kids.length:Int)<k
     ·rw[if_pos T]at he;cases he
     ·omega
    obtain⟨j,rfl⟩:∃j:Nat,k=j:=⟨k.toNat,by omega⟩
    rw[Int.toNat_natCast]
    have:=mv_ok G hG u hg h0 i q j hi hq n1 n2 n3 (by simpa[hX,hW,hQ,I]using he)
    rw[hX,hW]at this
    exact this
   ·have e2:decide (e≠0)=true:=decide_eq_true hE
    rw[if_pos hE]
    rw[U.cs_eq X]at Y Z c3 c5
    rw[U.cs_eq P]at M
    rw[U.cs_eq W]at ac V c3
    rw[U.cs_eq Q]at V c3 c4 c5
    rw[hU]at c1 c2 Y M ac ⊢
    refine Pure.wL c62 λR hR=>?_
    unfold s62 r62
    (repeat' (first|(with_reducible (first|refine ab (λh=>?_) (λh=>?_)|refine ai (λh=>?_) (λh=>?_)|refine aj (λh=>?_) (λh=>?_))<;>(try simp only[DZ]at h))|(with_reducible refine AI (by omega) ?_)|simp only[EVz,seval,↓reduceIte,EV6,EV7,D]|simp only[EVz,seval,↓reduceIte,EV6,EV7]|(with_reducible intro O F;(try(have E:=F;simp only[EVK]at E;first|(have D:=AI E D)|(have D:=E))))|(with_reducible first|refine ae ?_ ?_|refine af ?_)|(refine⟨[[.sc _,.int .i64 _],[.sc _,.int .i64 _]],rfl,(by simp),rfl,?_⟩)|(exfalso;omega)))
    refine bG G (l:=[(_,!stP u,1),(_,(!hasP i u|| !hasP q u),4)]) rfl (by simp) (λy hy=>?_) ?_
    ·simp only[mem_cons,not_mem_nil,or_false]at hy
     rcases hy with rfl|rfl
     ·exact⟨_,(by refine⟨?_,λI=>?_⟩;(repeat(first|exact aM|(refine aD (by repeat(first|exact mem_cons_self|refine mem_cons_of_mem _ ?_)) ?_)));(simp only[Store.keys,map_cons,map_nil,nodup_cons,mem_cons,not_mem_nil,or_false,not_or,not_false_eq_true,true_and,nodup_nil,and_true,@eq_comm Nat]at I ⊢ <;>simp only[I,not_false_eq_true,and_self])),_,_,_,rfl,c1 _⟩
     ·exact⟨_,(by refine⟨?_,λI=>?_⟩;(repeat(first|exact aM|(refine aD (by repeat(first|exact mem_cons_self|refine mem_cons_of_mem _ ?_)) ?_)));(simp only[Store.keys,map_cons,map_nil,nodup_cons,mem_cons,not_mem_nil,or_false,not_or,not_false_eq_true,true_and,nodup_nil,and_true,@eq_comm Nat]at I ⊢ <;>simp only[I,not_false_eq_true,and_self])),_,_,_,rfl,c2 _ _ _⟩
    ·rw[al,N]
     (repeat' (first|(with_reducible (first|refine ab (λh=>?_) (λh=>?_)|refine ai (λh=>?_) (λh=>?_)|refine aj (λh=>?_) (λh=>?_))<;>(try simp only[DZ]at h))|(with_reducible first|refine AI (by omega) ?_|refine aa Y ?_|refine aa M ?_|refine aa Z ?_|refine aa hN ?_|refine aa ac ?_|refine aa V ?_)|simp only[EVz,seval,↓reduceIte,EV6,EV7,gv,e1,D]|simp only[EVz,seval,↓reduceIte,EV6,EV7,gv,e1]|(with_reducible intro O F;(try(have E:=F;simp only[EVK]at E;first|(have D:=AI E D)|(have D:=E))))|(with_reducible first|refine ae ?_ ?_|refine af ?_)|(refine⟨[[.sc _,.int .i64 _],[.sc _,.int .i64 _],[.sc _,.int .i64 _]],rfl,(by simp),rfl,?_⟩)|(exfalso;omega)))
     refine bG G (l:=[(_,(decide (k<0)||decide ((Q.kids.length:Int)<k)),3),(_,taken Q.kids X.kind X.label,10),(_,(decide (64<=(Q.kids.length:Int))||decide (8<(n:Int)+1+X.dep)),6)]) rfl (by simp) (λy hy=>?_) ?_
     ·simp only[mem_cons,not_mem_nil,or_false]at hy
      rcases hy with rfl|rfl|rfl
      ·exact⟨_,(by refine⟨?_,λI=>?_⟩;(repeat(first|exact aM|(refine aD (by repeat(first|exact mem_cons_self|refine mem_cons_of_mem _ ?_)) ?_)));(simp only[Store.keys,map_cons,map_nil,nodup_cons,mem_cons,not_mem_nil,or_false,not_or,not_false_eq_true,true_and,nodup_nil,and_true,@eq_comm Nat]at I ⊢ <;>simp only[I,not_false_eq_true,and_self])),_,_,_,rfl,c4 _ _⟩
      ·exact⟨_,(by refine⟨?_,λI=>?_⟩;(repeat(first|exact aM|(refine aD (by repeat(first|exact mem_cons_self|refine mem_cons_of_mem _ ?_)) ?_)));(simp only[Store.keys,map_cons,map_nil,nodup_cons,mem_cons,not_mem_nil,or_false,not_or,not_false_eq_true,true_and,nodup_nil,and_true,@eq_comm Nat]at I ⊢ <;>simp only[I,not_false_eq_true,and_self])),_,_,_,rfl,c5 _ _⟩
      ·exact⟨_,(by refine⟨?_,λI=>?_⟩;(repeat(first|exact aM|(refine aD (by repeat(first|exact mem_cons_self|refine mem_cons_of_mem _ ?_)) ?_)));(simp only[Store.keys,map_cons,map_nil,nodup_cons,mem_cons,not_mem_nil,or_false,not_or,not_false_eq_true,true_and,nodup_nil,and_true,@eq_comm Nat]at I ⊢ <;>simp only[I,not_false_eq_true,and_self])),_,_,_,rfl,c3 _ _ _ _⟩
     ·rw[J]
      (repeat' (first|(with_reducible (first|refine ab (λh=>?_) (λh=>?_)|refine ai (λh=>?_) (λh=>?_)|refine aj (λh=>?_) (λh=>?_))<;>(try simp only[DZ]at h))|(with_reducible refine AI (by omega) ?_)|simp only[EVz,seval,↓reduceIte,EV6,EV7,e2,D]|simp only[EVz,seval,↓reduceIte,EV6,EV7,e2]|(with_reducible intro O F;(try(have E:=F;simp only[EVK]at E;first|(have D:=AI E D)|(have D:=E))))|(with_reducible first|refine ae ?_ ?_|refine af ?_)|(exfalso;omega)))
      all_goals exact hR _ _ (dG e)
end
theorem nZ {u:U} (h:Good u) {i t:Idd} (hi:i∈u.ids) (F:u.id≠i) (X:t∈u.ids) {wh:Int} (h0:0<=wh) (h3:wh<=3) {q:Idd} {k:Nat} (e:dY u i t wh=some (q,k)):q∈u.ids/\q∉(fnd i u).ids/\q∈(without i u).ids:=by
 obtain⟨g1,g2,g3,A,B,hA,Y,Z⟩:=cN h hi F
 obtain⟨own,dO,j,w1,w2,O⟩:=bt h.nd hi F
 obtain⟨a,x,b,s,hx,hj,hl⟩:=O.split
 have M:fnd i u=x:=aB hl
 have E:q∈u.ids/\q∉(fnd i u).ids:=by
  unfold dY at e
  rw[w1]at e
  simp only at e
  split at e
  ·cases e
  ·rename_i V
   rw[not_or]at V
   split at e
   ·injection e with e;injection e with e3 e4
    subst e3
    refine⟨O.mem,?_⟩
    rw[M]
    have:=(U.nd_kids O.nd).2
    rw[s.eq,U.idss_app,U.idss_cons]at this
    exact λD=>this (mem_append.2 (.inr (mem_append.2 (.inl D))))
   ·rename_i T
    obtain⟨⟨q',k'⟩,I,e6⟩:=Option.map_eq_some_iff.1 e
    injection e6 with e7 e8
    subst e7
    have hr:¬(besides wh=true/\t=u.id):=by
     rintro⟨r1,r2⟩
     have J:wh=2\/wh=3:=by simpa[besides]using r1
     unfold spot at I
     rw[cB r2.symm]at I
     rcases J with J|J<;>simp[J]at I
    obtain⟨P,dp,k2,N⟩:=jP h.nd X h0 h3 hr
    have:=N.spot
    rw[I]at this
    injection this with this
    injection this with e9 e10
    simp only at e9 ⊢
    rw[e9]
    refine⟨N.mem,N.out i hi λD=>?_⟩
    exact V.1 ((gl u h.nd X hi).2 ⟨T,D⟩)
 refine⟨E.1,E.2,?_⟩
 rw[Z]
 have:=E.1
 rw[Y]at this
 rcases mem_append.1 this with D|D
 ·exact mem_append.2 (.inl D)
 ·rcases mem_append.1 D with D|D
  ·exact absurd D E.2
  ·exact mem_append.2 (.inr D)
theorem og {i:Idd} {f:U->U}:∀us:List U,(U.wths i f us).length=us.length
 |[]=>by rw[U.wths_nil]
 |u::us=>by
  rw[U.wths_cons]
  split
  ·rw[length_cons,length_cons,og us]
  ·rfl
theorem nQ {u:U} (h:Good u) {i q:Idd} (hi:i∈u.ids) (ac:u.id≠i) (O:q∈u.ids) (F:q∉(fnd i u).ids) {own:U} {V j:Nat} (T:aF i u=some (own,V,j)):
  (fnd q (without i u)).kids.length=if q=own.id then own.kids.length-1 else (fnd q u).kids.length:=by
 have N:=et u h.nd hi T
 obtain⟨a,x,b,s,hx,Y,Z⟩:=N.split
 have M:fnd i u=x:=aB Z
 rw[M]at F
 have X:without i u=U.wth own.id (λy=>{y with kids:=delAt y.kids j}) u:=by unfold without;rw[T]
 subst Y
 have I:=way_out (t:=q) h.nd N s.eq F
 have D:=(cS u h.nd O).2
 have J:fnd q (without i u)=U.wth own.id (λy=>{y with kids:=delAt y.kids a.length}) (fnd q u):=by
  rw[X]
  refine aB ?_
  rw[I,getLast?_map,D,Option.map_some]
 rw[J]
 by_cases E:q=own.id
 ·subst E
  rw[if_pos rfl,N.fnd,bA rfl,s.eq]
  simp only
  rw[bO,length_append,length_append,length_cons];omega
 ·rw[if_neg E,U.wth_eq,if_neg (by rw[(cS u h.nd O).1];exact E)]
  exact og _
theorem goes_le {u:U} (h:Good u) {i t:Idd} (hi:i∈u.ids) (E:u.id≠i) (Y:t∈u.ids) {wh:Int} (T:0<=wh) (V:wh<=3) {q:Idd} {k:Nat} (e:dY u i t wh=some (q,k)):k<=(fnd q (without i u)).kids.length:=by
 obtain⟨m1,m2,m3⟩:=nZ h hi E Y T V e
 obtain⟨own,dO,j,M,w2,X⟩:=bt h.nd hi E
 obtain⟨p1,p2,_⟩:=ei h i _ M
 change j<own.kids.length at p1
 rw[nQ h hi E m1 m2 M]
 unfold dY at e
 rw[M]at e
 simp only at e
 split at e
 ·cases e
 ·split at e
  ·injection e with e;injection e with e3 e4
   rw[if_pos e3.symm];omega
  ·obtain⟨⟨q',Z⟩,N,O⟩:=Option.map_eq_some_iff.1 e
   have J:=spot_le h N
   injection O with e7 e8
   simp only at e7 e8
   subst e7
   by_cases D:q'=own.id
   ·rw[if_pos D]
    rw[D,X.fnd]at J
    split at e8
    ·omega
    ·rename_i F
     have:¬j<Z:=λI=>F ⟨D,I⟩
     omega
   ·rw[if_neg D]
    split at e8
    ·rename_i F;exact absurd F.1 D
    ·omega
theorem SubN.seven {n x a b c d e:Nat×AObj}:SubN [n,x,a,b,c,d,e] [a,b,c,n,d,e,x]:=
 SubN.perm ((perm_middle (l₁:=[a,b,c]) (l₂:=[d,e,x])).trans (List.Perm.cons _ (perm_middle (l₁:=[a,b,c,d,e]) (l₂:=[])))).symm
section
variable (G:Glob)
theorem nu (u X:U) (d:Dd) (e:Int) (J:e≠0) (D:Pure G Tryz.prog 144 [.agg u.cs,.agg d.it.cs] (cI (.inr e))):Pure G Tryz.prog 98 [.agg u.cs,.agg X.cs,.agg d.cs] (aO (u,e)):=by
 unfold cI at D
 unfold Dd.cs aO
 rw[Itm.cs_eq]at D ⊢
 rw[U.cs_eq X]
 refine Pure.w c98 λR N=>?_
 unfold s98 r98
 (repeat' (first|(with_reducible (refine ab (λh=>?_) (λh=>?_))<;>(try simp only[DZ]at h))|(with_reducible refine aa D ?_)|simp only[EVz,seval,↓reduceIte,EV6,EV7,J,E]|simp only[EVz,seval,↓reduceIte,EV6,EV7,J]|(with_reducible intro M I;(try(have F:=I;simp only[EVK]at F;first|(have E:=AI F E)|(have E:=F))))|(exfalso;omega)))
 all_goals exact RQ N
end
section
variable (G:Glob) (hG:GOk G)
include hG
set_option maxHeartbeats 4000000 in
theorem f98 (u:U) (J:Good u) (d:Dd) (i:Idd) (hO:one u d.it.at_=(i,0)) (F:u.id≠i) (bh:d.it.kind=6) (h0:0<=d.it.wh) (h3:d.it.wh<=3) (hp:d.it.at_.length<1000000) (bq:d.it.to_.length<1000000):
  Pure G Tryz.prog 98 [.agg u.cs,.agg (fnd i u).cs,.agg d.cs] (aO (if (one u d.it.to_).2≠0 then (u,(one u d.it.to_).2)else movP u i (one u d.it.to_).1 d)):=by
 have hs:=J.short
 have bo:=J.cnt
 have hi:i∈u.ids:=by have:=bZ (u:=u) (p:=d.it.at_);rw[hO]at this;exact this rfl
 have D:=f144 G u d.it hs bo J.nd (good_hk J) (nj J) (.inr bh) h0 h3 hp bq
 have Z:=(cS u J.nd hi).1
 have ba:=aP u J.nd hi
 have Y:=bZ (u:=u) (p:=d.it.to_)
 have bd:dest u d.it=if (one u d.it.to_).2≠0 then .inr (one u d.it.to_).2 else (match dY u i (one u d.it.to_).1 d.it.wh with|none=>.inr 9|some q=>.inl q):=by
  unfold dest
  rw[hO]
  simp[bh]
  rfl
 rw[bd]at D
 obtain⟨⟨t,e⟩,bu⟩:∃z,one u d.it.to_=z:=⟨_,rfl⟩
 rw[bu]at D Y ⊢
 simp only at D Y ⊢
 rcases Classical.em (e=0)with he|he
 ·subst he
  rw[if_neg (by simp)]at D ⊢
  have ht:=Y rfl
  have aw:=λq k=>nZ (q:=q) (k:=k) J hi F ht h0 h3
  have al:=λq k=>goes_le (q:=q) (k:=k) J hi F ht h0 h3
  unfold movP
  obtain⟨z,hz⟩:∃z,dY u i t d.it.wh=z:=⟨_,rfl⟩
  rw[hz]at D aw al ⊢
  rcases z with _|⟨q,k⟩
  ·exact nu G u _ d 9 (by omega) D
  ·obtain⟨m1,m2,m3⟩:=aw q k rfl
   have T:=al q k rfl
   obtain⟨g1,g2,g3,g4⟩:=cN J hi F
   obtain⟨own,dO,j,w1,w2,bs⟩:=bt J.nd hi F
   have hP:=f131 G i u hs J.nd
   unfold gW at hP
   rw[w1]at hP
   have O:=f156 G u J i hi F
   have bb:(fnd i u).Short:=hs.node ba
   rw[w2]
   simp only
   obtain⟨V,hV⟩:∃V,without i u=V:=⟨_,rfl⟩
   rw[hV]at O g1 m3 T ⊢
   have ah:=g1.short
   have hF:=f44 G q V ah
   unfold gV at hF
   rw[fG m3,if_neg (by simp)]at hF
   have be:=gq g1 q
   have ac:=mh m3
   have ch:=g1.cnt
   clear aw al bd Y g4 g2 g3 w1 w2 bs hz m1 m2
   obtain⟨X,hX⟩:∃X,fnd i u=X:=⟨_,rfl⟩
   rw[hX]at Z ba bb ⊢
   subst Z
   have M:=f147 G V q X ah.1 bb.1
   have hT:=f146 G hG (fnd q V) X (by omega)
   have hW:=λbn bx=>f153 G _ _ _ q V ah g1.nd m3 (d164 G bn bx k X _ T (by omega))
   obtain⟨P,bl⟩:∃P,fnd q V=P:=⟨_,rfl⟩
   rw[bl]at hF hT T be ⊢
   obtain⟨tk,bw⟩:∃tk,dR P P.kids X=tk:=⟨_,rfl⟩
   rw[bw]at hT ⊢
   rw[←ac]
   obtain⟨an,bm⟩:∃an,(anc q V).length=an:=⟨_,rfl⟩
   rw[bm]at M ⊢
   unfold cI at D
   simp only[Idd.cs]at hF M hP O hW
   simp only at D
   rw[U.cs_eq P]at hF hT
   rw[U.cs_eq X]at hT M hW ⊢
   unfold Dd.cs aO
   rw[show(((an+1:Nat):Int))=(an:Int)+1 by omega]
   refine Pure.w c98 λR hR=>?_
   unfold s98 r98
   rw[Itm.cs_eq]at D ⊢
   rcases Classical.em (tk=0)with h|h
   ·subst h
    rw[if_neg (by simp)]at hR
    (repeat' (first|(with_reducible (first|refine ab (λh=>?_) (λh=>?_)|refine ai (λh=>?_) (λh=>?_))<;>(try simp only[DZ]at h))|(with_reducible first|refine aa D ?_|refine aa hP ?_|refine aa O ?_|refine aa hF ?_|refine aa hT ?_|refine aa M ?_)|simp only[EVz,seval,↓reduceIte,EV6,EV7,gv,E]|simp only[EVz,seval,↓reduceIte,EV6,EV7,gv]|(with_reducible intro bk N;(try(have I:=N;simp only[EVK]at I;first|(have E:=AI I E)|(have E:=I))))))
    all_goals try(
     refine hR _ _ (.inl (.inl ?_))
     rw[if_pos (by first|exact .inl ⟨by assumption,by omega⟩|exact .inr (by omega))]
     done)
    all_goals
     have bp:¬((q≠own.id/\64<=P.kids.length)\/8<(an:Int)+1+X.dep):=by
      rintro(⟨g2,g3⟩|g4)
      ·first
        |omega
        |exact g2 (by assumption)
      ·omega
     rw[if_neg bp]at hR
     refine aT [(_,_),(_,_)] [_,_,_,_,_] (hW _ _).v (ax.rfl' _) SubN.seven (λr1 cm hr bi=>?_)
     obtain⟨rfl,rfl⟩:=hr
     refine⟨_,SubN.refl _,?_⟩
     have E:=bi
     simp[Store.keys]at E
     (repeat' (simp only[EVz,seval,↓reduceIte,EV6,EV7,E]))
     all_goals exact RQ hR
   ·rw[if_pos h]at hR
    have h1:decide (tk≠0)=true:=decide_eq_true h
    clear M hW be ac T
    (repeat' (first|(with_reducible first|refine aa D ?_|refine aa hP ?_|refine aa O ?_|refine aa hF ?_|refine aa hT ?_)|simp only[EVz,seval,↓reduceIte,EV6,EV7,h1,E]|simp only[EVz,seval,↓reduceIte,EV6,EV7,h1]|(with_reducible intro bk N;(try(have I:=N;simp only[EVK]at I;first|(have E:=AI I E)|(have E:=I))))))
    all_goals exact RQ hR
 ·rw[if_pos he]at D ⊢
  exact nu G u _ d e he D
end
end Go.Av
