/-
  UNDO, walks 10: words and headings set; tests ahead of a move.
-/
import Derived.Test.YtnoakpkjccigoaaGreatDoorXV9toXV9b
namespace Go.Av
open Go Go.RowKit Go.Proofs List
set_option linter.unusedSimpArgs false
set_option linter.unusedVariables false
theorem mov_in {u:U} (h:Good u) {i q:Idd} (hi:i∈u.ids) (hne:u.id≠i) (hq:q∈u.ids) (hqx:q∉(fnd i u).ids):q∈(without i u).ids:=by
 obtain⟨g1,g2,g3,A,B,hA,e1,e2⟩:=cN h hi hne
 rw[e2]
 rw[e1]at hq
 rcases mem_append.1 hq with hm|hm
 ·exact mem_append.2 (.inl hm)
 ·rcases mem_append.1 hm with hm|hm
  ·exact absurd hm hqx
  ·exact mem_append.2 (.inr hm)
section
variable (G:Glob) (hG:GOk G)
include hG
theorem f66 (u:U) (hg:Good u) (i:Idd) (l:List Wd) (hl:l.length<1000000):Pure G Tryz.prog 66 [.agg u.cs,.agg i.cs,.lst 4 (l.map Wd.cs)] (aO (wrT u i l (λy=>{y with words:=l}))):=by
 have hW:=λb=>f135 G hG u hg i l hl _ _ _ (v136 G b l hl (fnd i u))
 unfold aO at hW ⊢
 have hXl:=U.cs_len (wrT u i l (λy=>{y with words:=l})).1
 generalize (wrT u i l (λy=>{y with words:=l})).1.cs=ys at*
 generalize (wrT u i l (λy=>{y with words:=l})).2=e at*
 have hyt:ys.take 8=ys:=take_of_length_le (by omega)
 simp only[Idd.cs]at hW
 rw[U.cs_eq u]at hW ⊢
 refine Pure.w c66 λR hR=>?_
 unfold s66 r66
 (repeat' (first|simp only[EVz,seval,↓reduceIte,EV6,EV7,hXl,hyt,hne]|simp only[EVz,seval,↓reduceIte,EV6,EV7,hXl,hyt]|(with_reducible intro blk hblk;(try(have hnx:=hblk;simp only[EVK]at hnx;first|(have hne:=AI hnx hne)|(have hne:=hnx))))|(refine ce (hW _).v (by refine⟨?_,λhn=>?_⟩;(repeat(first|exact aM|(refine aD (by repeat(first|exact mem_cons_self|refine mem_cons_of_mem _ ?_)) ?_)));(simp only[Store.keys,map_cons,map_nil,nodup_cons,mem_cons,not_mem_nil,or_false,not_or,not_false_eq_true,true_and,nodup_nil,and_true,@eq_comm Nat]at hn ⊢ <;>simp only[hn,not_false_eq_true,and_self])) ?_)|fail))
 all_goals exact hR _ _ (.inl (.inl (by rfl)))
theorem f68 (u:U) (hg:Good u) (i:Idd) (l:List Wd) (hl:l.length<1000000):Pure G Tryz.prog 68 [.agg u.cs,.agg i.cs,.lst 4 (l.map Wd.cs)] (aO (wrT u i l (λy=>{y with head:=l}))):=by
 have hW:=λb=>f135 G hG u hg i l hl _ _ _ (v137 G b l hl (fnd i u))
 unfold aO at hW ⊢
 have hXl:=U.cs_len (wrT u i l (λy=>{y with head:=l})).1
 generalize (wrT u i l (λy=>{y with head:=l})).1.cs=ys at*
 generalize (wrT u i l (λy=>{y with head:=l})).2=e at*
 have hyt:ys.take 8=ys:=take_of_length_le (by omega)
 simp only[Idd.cs]at hW
 rw[U.cs_eq u]at hW ⊢
 refine Pure.w c68 λR hR=>?_
 unfold s68 r68
 (repeat' (first|simp only[EVz,seval,↓reduceIte,EV6,EV7,hXl,hyt,hne]|simp only[EVz,seval,↓reduceIte,EV6,EV7,hXl,hyt]|(with_reducible intro blk hblk;(try(have hnx:=hblk;simp only[EVK]at hnx;first|(have hne:=AI hnx hne)|(have hne:=hnx))))|(refine ce (hW _).v (by refine⟨?_,λhn=>?_⟩;(repeat(first|exact aM|(refine aD (by repeat(first|exact mem_cons_self|refine mem_cons_of_mem _ ?_)) ?_)));(simp only[Store.keys,map_cons,map_nil,nodup_cons,mem_cons,not_mem_nil,or_false,not_or,not_false_eq_true,true_and,nodup_nil,and_true,@eq_comm Nat]at hn ⊢ <;>simp only[hn,not_false_eq_true,and_self])) ?_)|fail))
 all_goals exact hR _ _ (.inl (.inl (by rfl)))
theorem f120 (b:Nat) (u:U) (hs:u.Short):ag G Tryz.prog 120 [.sc (.pointer (some ⟨b,0,none⟩))] [(b,.cells 27 u.cs)] λr σ'=>r= .bool (!stP u)/\σ'=[(b,.cells 27 u.cs)]:=by
 have hS:=f111 G hG u hs
 refine ag.w c120 ?_
 unfold s120 r120
 rw[U.cs_eq u]at hS ⊢
 (repeat' (first|(with_reducible refine aa hS ?_)|simp only[EVz,seval,↓reduceIte,EV6,EV7]|fail))
 all_goals exact RET.keep rfl (SubN.refl _)
omit hG
theorem f121 (b c d:Nat) (u:U) (hs:u.Short) (i q:Idd):ag G Tryz.prog 121 [.sc (.pointer (some ⟨b,0,none⟩)),.sc (.pointer (some ⟨c,0,none⟩)),.sc (.pointer (some ⟨d,0,none⟩))] [(b,.cells 27 u.cs),(c,.cells 23 i.cs),(d,.cells 23 q.cs)] λr σ'=>r= .bool (!hasP i u|| !hasP q u)/\σ'=[(b,.cells 27 u.cs),(c,.cells 23 i.cs),(d,.cells 23 q.cs)]:=by
 have hH:=f113 G i u hs
 have hH2:=f113 G q u hs
 simp only[Idd.cs]at hH hH2
 generalize hasP i u=t at*
 generalize hasP q u=t2 at*
 refine ag.wn c121 λhnd=>?_
 simp only[Store.keys,map_cons,map_nil,nodup_cons,mem_cons,not_mem_nil,or_false,not_or]at hnd
 obtain⟨⟨a1,a2⟩,a3,_⟩:=hnd
 unfold s121 r121
 rw[U.cs_eq u]at hH hH2 ⊢
 (repeat' (first|(with_reducible (refine ai (λh=>?_) (λh=>?_))<;>(try simp only[Da,Db,Dc,Dw,De,Df,Dg,Dh]at h))|(with_reducible first|refine aa hH ?_|refine aa hH2 ?_)|simp only[EVz,seval,↓reduceIte,EV6,EV7,a1,a2,a3]|fail))
 all_goals(refine RET.keep ?_ (SubN.refl _);simp[*])
theorem f126 (bk bp:Nat) (k:Int) (p:U):ag G Tryz.prog 126 [.sc (.pointer (some ⟨bk,0,none⟩)),.sc (.pointer (some ⟨bp,0,none⟩))] [(bk,.cells 3 [.int .i64 k]),(bp,.cells 27 p.cs)] λr σ'=>r= .bool (decide (k<0)||decide ((p.kids.length:Int)<k))/\σ'=[(bk,.cells 3 [.int .i64 k]),(bp,.cells 27 p.cs)]:=by
 refine ag.wn c126 λhnd=>?_
 have q1:¬bk=bp:=by simp[Store.keys]at hnd;exact hnd
 have q2:¬bp=bk:=λe=>q1 e.symm
 unfold s126 r126
 rw[U.cs_eq p]
 (repeat' (first|(with_reducible (refine ai (λh=>?_) (λh=>?_))<;>(try simp only[Da,Db,Dc,Dw,De,Df,Dg,Dh]at h))|simp only[EVz,seval,↓reduceIte,EV6,EV7,q1,q2]|fail))
 all_goals(refine RET.keep ?_ (SubN.refl _);first|(simp[*];done)|(simp[*];omega))
theorem f127 (bp bx:Nat) (p x:U) (hp:p.kids.length<1000000):ag G Tryz.prog 127 [.sc (.pointer (some ⟨bp,0,none⟩)),.sc (.pointer (some ⟨bx,0,none⟩))] [(bp,.cells 27 p.cs),(bx,.cells 27 x.cs)] λr σ'=>r= .bool (taken p.kids x.kind x.label)/\σ'=[(bp,.cells 27 p.cs),(bx,.cells 27 x.cs)]:=by
 have hT:=f128 G p.kids x.kind x.label hp
 refine ag.wn c127 λhnd=>?_
 have q1:¬bp=bx:=by simp[Store.keys]at hnd;exact hnd
 have q2:¬bx=bp:=λe=>q1 e.symm
 unfold s127 r127
 rw[U.cs_eq p,U.cs_eq x]
 (repeat' (first|(with_reducible refine aa hT ?_)|simp only[EVz,seval,↓reduceIte,EV6,EV7,q1,q2]|fail))
 all_goals exact RET.keep rfl (SubN.refl _)
set_option maxHeartbeats 4000000 in
theorem f123 (bp bu bq bx:Nat) (p u x:U) (q:Idd) (hu:u.Short) (hcu:u.flat.length<=1000000) (hx:x.Short) (hcx:x.flat.length<=1000000) (hp:p.kids.length<1000000):
  ag G Tryz.prog 123 [.sc (.pointer (some ⟨bp,0,none⟩)),.sc (.pointer (some ⟨bu,0,none⟩)),.sc (.pointer (some ⟨bq,0,none⟩)),.sc (.pointer (some ⟨bx,0,none⟩))]
   [(bp,.cells 27 p.cs),(bu,.cells 27 u.cs),(bq,.cells 23 q.cs),(bx,.cells 27 x.cs)]
   λr σ'=>r= .bool (decide (64<=(p.kids.length:Int))||decide (8<((anc q u).length:Int)+1+x.dep))/\σ'=[(bp,.cells 27 p.cs),(bu,.cells 27 u.cs),(bq,.cells 23 q.cs),(bx,.cells 27 x.cs)]:=by
 have hA:=f124 G q u hu
 have hD:=f125 G x hx.1
 simp only[Idd.cs]at hA
 have h1:(anc q u).length<=u.flat.length:=by
  unfold anc
  rw[length_reverse,length_map,length_dropLast]
  have:=eF q u
  omega
 have h3:=x.dep_cnt
 have h5:=x.dep_ge
 unfold U.cnt at h3
 have w1:IntKind.i64.wrap (((anc q u).length:Int)+1)=((anc q u).length:Int)+1:=aA (by omega) (by omega)
 have w2:IntKind.i64.wrap (((anc q u).length:Int)+1+x.dep)=((anc q u).length:Int)+1+x.dep:=aA (by omega) (by omega)
 obtain⟨an,han⟩:∃an,(anc q u).length=an:=⟨_,rfl⟩
 rw[han]at hA w1 w2 ⊢
 refine ag.wn c123 λhnd=>?_
 simp only[Store.keys,map_cons,map_nil,nodup_cons,mem_cons,not_mem_nil,or_false,not_or]at hnd
 obtain⟨⟨a1,a2,a3⟩,⟨a4,a5⟩,a6,_⟩:=hnd
 have b1:¬bu=bp:=λe=>a1 e.symm
 have b2:¬bq=bp:=λe=>a2 e.symm
 have b3:¬bx=bp:=λe=>a3 e.symm
 have b4:¬bq=bu:=λe=>a4 e.symm
 have b5:¬bx=bu:=λe=>a5 e.symm
 have b6:¬bx=bq:=λe=>a6 e.symm
 unfold s123 r123
 rw[U.cs_eq u]at hA ⊢
 rw[U.cs_eq x]at hD ⊢
 rw[U.cs_eq p]
 (repeat' (first|(with_reducible (refine ai (λh=>?_) (λh=>?_))<;>(try simp only[Da,Db,Dc,Dw,De,Df,Dg,Dh]at h))|(with_reducible first|refine aa hA ?_|refine aa hD ?_)|simp only[EVz,seval,↓reduceIte,EV6,EV7,w1,w2,a1,a2,a3,a4,a5,a6,b1,b2,b3,b4,b5,b6]|(with_reducible refine ae ?_ ?_)|(with_reducible refine af ?_)|fail))
 all_goals(refine RET.keep (congrArg AV.bool ?_) (SubN.refl _);first|(rw[decide_eq_true (p:=(64:Int)<=_) (by omega)];rfl)|(rw[decide_eq_false (p:=(64:Int)<=_) (by omega)];rfl))
end
theorem nd2 {a b:Nat} {x y:AObj} {σ:Store} (h:(Store.keys ((a,x)::(b,y)::σ)).Nodup):(¬a∈Store.keys ((b,y)::σ))/\(¬b∈Store.keys σ):=by
 simp only[Store.keys,map_cons,nodup_cons]at h ⊢
 exact⟨h.1,h.2.1⟩
section
variable (G:Glob) (hG:GOk G)
include hG
set_option maxHeartbeats 8000000 in
theorem mv_ok (u:U) (hg:Good u) (h0:u.kind=0) (i q:Idd) (j:Nat) (hi:i∈u.ids) (hq:q∈u.ids) (n1:¬i=u.id) (n2:¬q∈(fnd i u).ids) (n3:nests (fnd q u).kind (fnd i u).kind=true)
  (he:(if (j:Int)<0\/((fnd q (without i u)).kids.length:Int)<j then 3 else if taken (fnd q (without i u)).kids (fnd i u).kind (fnd i u).label=true then 10 else if 64<=(fnd q (without i u)).kids.length\/8<((anc q (without i u)).length:Int)+1+(fnd i u).dep then 6 else (0:Int))=0):
  Pure G Tryz.prog 62 [.agg u.cs,.agg i.cs,.agg q.cs,.int .i64 (j:Int)] (aO (U.wth q (λy=>{y with kids:=insAt y.kids j (fnd i u)}) (without i u),0)):=by
 have hs:=hg.short
 have hst:=d6 hg h0
 have hU:=U.cs_eq u
 have hF:=cj G i u hs
 have hF2:=cj G q u hs
 have c1:=λb=>f120 G hG b u hs
 have c2:=λb c d=>f121 G b c d u hs i q
 have hfst:=λf1 f2=>kf u i q f1 f2
 simp only[hst]at hfst
 have hxs:=fb hs i
 have hH:=f113 G q (fnd i u) hxs
 have hN:=f122 G hG (fnd q u).kind (fnd i u).kind
 simp only[Idd.cs]at hF hF2 hH c2
 have g1:¬(i∉u.ids\/q∉u.ids):=by simp[hi,hq]
 simp only[if_neg g1]at hfst
 have hXl:=U.cs_len (fnd i u)
 have hne0:u.id≠i:=λe=>n1 e.symm
 have e1:decide (i=u.id)=false:=decide_eq_false n1
 rw[n3]at hN
 rw[show hasP q (fnd i u)=false from decide_eq_false n2]at hH
 obtain⟨gr,_,_,_⟩:=cN hg hi hne0
 have hqr:=mov_in hg hi hne0 hq n2
 have hrs:=gr.short
 have hWo:=f115 G u hs hg.nd i hi hne0 (λp hp=>cT (hg.node p hp))
 have hF3:=cj G q (without i u) hrs
 have hfx:=(hs.node (aP u hg.nd hi)).1.2
 have hkr:=gq gr q
 have hjl:j<=(fnd q (without i u)).kids.length:=by
  by_cases g1:(j:Int)<0\/((fnd q (without i u)).kids.length:Int)<j
  ·rw[if_pos g1]at he;cases he
  ·omega
 have c3:=λa b c d=>f123 G a b c d (fnd q (without i u)) (without i u) (fnd i u) q hrs (by have:=gr.cnt;omega) hxs (by omega) (by omega)
 have c4:=λa b=>f126 G a b (j:Int) (fnd q (without i u))
 have c5:=λa b=>f127 G a b (fnd q (without i u)) (fnd i u) (by omega)
 have hfst2:=λf1 f2 f3=>kb (fnd q (without i u)) (fnd i u) (j:Int) ((anc q (without i u)).length:Int) f1 f2 f3
 simp only[he]at hfst2
 have hD:=λa b=>f118 G _ _ _ q (without i u) hrs gr.nd hqr (v212 G a b j (fnd i u) (fnd q (without i u)) hjl (by omega) hxs)
 have hPu:=f119 G (j:Int) (fnd i u)
 have hYl:=U.cs_len (U.wth q (λy=>{y with kids:=insAt y.kids j (fnd i u)}) (without i u))
 clear he
 unfold aO
 simp only
 generalize (U.wth q (λy=>{y with kids:=insAt y.kids j (fnd i u)}) (without i u)).cs=ys at*
 have hyt:ys.take 8=ys:=take_of_length_le (by omega)
 generalize (anc q (without i u)).length=n at*
 obtain⟨X,hX⟩:∃X,fnd i u=X:=⟨_,rfl⟩
 obtain⟨P,hP⟩:∃P,fnd q u=P:=⟨_,rfl⟩
 obtain⟨W,hW⟩:∃W,without i u=W:=⟨_,rfl⟩
 rw[hW]at hWo hF3
 simp only[hW]at c3 c4 c5 hfst2 hD
 obtain⟨Q,hQ⟩:∃Q,fnd q W=Q:=⟨_,rfl⟩
 rw[hQ]at hF3
 simp only[hQ]at c3 c4 c5 hfst2 hD
 rw[hX]at hF hH hN hPu
 simp only[hX]at c3 c5 hfst2 hD
 rw[hP]at hF2 hN
 simp only[Idd.cs]at hWo hF3 c3 hD
 rw[U.cs_eq X]at hF hH c3 c5 hD hPu
 rw[U.cs_eq P]at hF2
 rw[U.cs_eq W]at hWo hF3 c3 hD
 rw[U.cs_eq Q]at hF3 c3 c4 c5
 rw[hU]at c1 c2 hF hF2 hWo ⊢
 clear hU hkr hfx hrs hqr gr hne0 g1 hxs n1 n2 n3 hg hi hq hs hW hQ hX hP hjl
 refine Pure.w c62 λR hR=>?_
 unfold s62 r62
 (repeat' (first|(with_reducible (first|refine ab (λh=>?_) (λh=>?_)|refine ai (λh=>?_) (λh=>?_)|refine aj (λh=>?_) (λh=>?_))<;>(try simp only[Da,Db,Dc,Dw,De,Df,Dg,Dh]at h))|(with_reducible refine AI (by omega) ?_)|simp only[EVz,seval,↓reduceIte,EV6,EV7,hne]|simp only[EVz,seval,↓reduceIte,EV6,EV7]|(with_reducible intro blk hblk;(try(have hnx:=hblk;simp only[EVK]at hnx;first|(have hne:=AI hnx hne)|(have hne:=hnx))))|(with_reducible refine ae ?_ ?_)|(with_reducible refine af ?_)|(refine⟨[[.sc _,.int .i64 _],[.sc _,.int .i64 _]],rfl,(by simp),rfl,?_⟩)|(exfalso;omega)))
 refine bG G (l:=[(_,!stP u,1),(_,(!hasP i u|| !hasP q u),4)]) rfl (by simp) (λy hy=>?_) ?_
 ·simp only[mem_cons,not_mem_nil,or_false]at hy
  rcases hy with rfl|rfl
  ·exact⟨_,(by refine⟨?_,λhn=>?_⟩;(repeat(first|exact aM|(refine aD (by repeat(first|exact mem_cons_self|refine mem_cons_of_mem _ ?_)) ?_)));(simp only[Store.keys,map_cons,map_nil,nodup_cons,mem_cons,not_mem_nil,or_false,not_or,not_false_eq_true,true_and,nodup_nil,and_true,@eq_comm Nat]at hn ⊢ <;>simp only[hn,not_false_eq_true,and_self])),_,_,_,rfl,c1 _⟩
  ·exact⟨_,(by refine⟨?_,λhn=>?_⟩;(repeat(first|exact aM|(refine aD (by repeat(first|exact mem_cons_self|refine mem_cons_of_mem _ ?_)) ?_)));(simp only[Store.keys,map_cons,map_nil,nodup_cons,mem_cons,not_mem_nil,or_false,not_or,not_false_eq_true,true_and,nodup_nil,and_true,@eq_comm Nat]at hn ⊢ <;>simp only[hn,not_false_eq_true,and_self])),_,_,_,rfl,c2 _ _ _⟩
 ·rw[hst,hfst]
  clear c1 c2 hfst
  (repeat' (first|(with_reducible (first|refine ab (λh=>?_) (λh=>?_)|refine ai (λh=>?_) (λh=>?_)|refine aj (λh=>?_) (λh=>?_))<;>(try simp only[Da,Db,Dc,Dw,De,Df,Dg,Dh]at h))|(with_reducible refine AI (by omega) ?_)|(with_reducible first|refine aa hF ?_|refine aa hF2 ?_|refine aa hH ?_|refine aa hN ?_|refine aa hWo ?_|refine aa hF3 ?_)|simp only[EVz,seval,↓reduceIte,EV6,EV7,idd_eq,e1,hne]|simp only[EVz,seval,↓reduceIte,EV6,EV7,idd_eq,e1]|(with_reducible intro blk hblk;(try(have hnx:=hblk;simp only[EVK]at hnx;first|(have hne:=AI hnx hne)|(have hne:=hnx))))|(with_reducible refine ae ?_ ?_)|(with_reducible refine af ?_)|(refine⟨[[.sc _,.int .i64 _],[.sc _,.int .i64 _],[.sc _,.int .i64 _]],rfl,(by simp),rfl,?_⟩)|(exfalso;omega)))
  refine bG G (l:=[(_,(decide ((j:Int)<0)||decide ((Q.kids.length:Int)<j)),3),(_,taken Q.kids X.kind X.label,10),(_,(decide (64<=(Q.kids.length:Int))||decide (8<(n:Int)+1+X.dep)),6)]) rfl (by simp) (λy hy=>?_) ?_
  ·simp only[mem_cons,not_mem_nil,or_false]at hy
   rcases hy with rfl|rfl|rfl
   ·exact⟨_,(by refine⟨?_,λhn=>?_⟩;(repeat(first|exact aM|(refine aD (by repeat(first|exact mem_cons_self|refine mem_cons_of_mem _ ?_)) ?_)));(simp only[Store.keys,map_cons,map_nil,nodup_cons,mem_cons,not_mem_nil,or_false,not_or,not_false_eq_true,true_and,nodup_nil,and_true,@eq_comm Nat]at hn ⊢ <;>simp only[hn,not_false_eq_true,and_self])),_,_,_,rfl,c4 _ _⟩
   ·exact⟨_,(by refine⟨?_,λhn=>?_⟩;(repeat(first|exact aM|(refine aD (by repeat(first|exact mem_cons_self|refine mem_cons_of_mem _ ?_)) ?_)));(simp only[Store.keys,map_cons,map_nil,nodup_cons,mem_cons,not_mem_nil,or_false,not_or,not_false_eq_true,true_and,nodup_nil,and_true,@eq_comm Nat]at hn ⊢ <;>simp only[hn,not_false_eq_true,and_self])),_,_,_,rfl,c5 _ _⟩
   ·exact⟨_,(by refine⟨?_,λhn=>?_⟩;(repeat(first|exact aM|(refine aD (by repeat(first|exact mem_cons_self|refine mem_cons_of_mem _ ?_)) ?_)));(simp only[Store.keys,map_cons,map_nil,nodup_cons,mem_cons,not_mem_nil,or_false,not_or,not_false_eq_true,true_and,nodup_nil,and_true,@eq_comm Nat]at hn ⊢ <;>simp only[hn,not_false_eq_true,and_self])),_,_,_,rfl,c3 _ _ _ _⟩
  ·rw[hfst2]
   clear c3 c4 c5 hfst2 hF hF2 hH hN hWo hF3
   (repeat' (first|(with_reducible (first|refine ab (λh=>?_) (λh=>?_)|refine ai (λh=>?_) (λh=>?_)|refine aj (λh=>?_) (λh=>?_))<;>(try simp only[Da,Db,Dc,Dw,De,Df,Dg,Dh]at h))|(with_reducible refine AI (by omega) ?_)|simp only[EVz,seval,↓reduceIte,EV6,EV7,hYl,hyt,hne]|simp only[EVz,seval,↓reduceIte,EV6,EV7,hYl,hyt]|(with_reducible intro blk hblk;(try(have hnx:=hblk;simp only[EVK]at hnx;first|(have hne:=AI hnx hne)|(have hne:=hnx))))|(with_reducible refine ae ?_ ?_)|(with_reducible refine af ?_)|(refine av [] _ hPu.v (ax.rfl' _) (SubN.refl _) (λr σ' hh hnd=>?_);obtain⟨ba,bb,rfl,rfl⟩:=hh;(have h2:=nd2 hnd);(simp only[append_eq,cons_append,nil_append,EVK]at h2);(have hne:=AI h2 hne))|(refine ce (hD _ _).v (SubN.cons (SubN.cons (SubN.nil _) _) _) ?_)|(exfalso;omega)))
   all_goals exact hR _ _ (.inl (.inl (by first|rfl|(simp[hYl,hyt];done))))
end
section
variable (G:Glob) (hG:GOk G)
include hG
set_option maxHeartbeats 8000000 in
theorem f62 (u:U) (hg:Good u) (h0:u.kind=0) (i q:Idd) (k:Int):Pure G Tryz.prog 62 [.agg u.cs,.agg i.cs,.agg q.cs,.int .i64 k] (aO (movT u i q k)):=by
 have hs:=hg.short
 have hst:=d6 hg h0
 have hU:=U.cs_eq u
 have hF:=cj G i u hs
 have hF2:=cj G q u hs
 have c1:=λb=>f120 G hG b u hs
 have c2:=λb c d=>f121 G b c d u hs i q
 have hfst:=λf1 f2=>kf u i q f1 f2
 simp only[hst]at hfst
 have hxs:=fb hs i
 have hH:=f113 G q (fnd i u) hxs
 have hN:=f122 G hG (fnd q u).kind (fnd i u).kind
 simp only[Idd.cs]at hF hF2 hH c2
 unfold movT
 rw[hst,if_neg (by simp)]
 by_cases g1:i∉u.ids\/q∉u.ids
 ·rw[if_pos g1]
  simp only[if_pos g1]at hfst
  rw[hU]at c1 c2 ⊢
  refine Pure.wL c62 λR hR=>?_
  unfold s62 r62
  (repeat' (first|(with_reducible (first|refine ab (λh=>?_) (λh=>?_)|refine ai (λh=>?_) (λh=>?_)|refine aj (λh=>?_) (λh=>?_))<;>(try simp only[Da,Db,Dc,Dw,De,Df,Dg,Dh]at h))|(with_reducible refine AI (by omega) ?_)|simp only[EVz,seval,↓reduceIte,EV6,EV7,hne]|simp only[EVz,seval,↓reduceIte,EV6,EV7]|(with_reducible intro blk hblk;(try(have hnx:=hblk;simp only[EVK]at hnx;first|(have hne:=AI hnx hne)|(have hne:=hnx))))|(with_reducible refine ae ?_ ?_)|(with_reducible refine af ?_)|(refine⟨[[.sc _,.int .i64 _],[.sc _,.int .i64 _]],rfl,(by simp),rfl,?_⟩)|(exfalso;omega)))
  refine bG G (l:=[(_,!stP u,1),(_,(!hasP i u|| !hasP q u),4)]) rfl (by simp) (λy hy=>?_) ?_
  ·simp only[mem_cons,not_mem_nil,or_false]at hy
   rcases hy with rfl|rfl
   ·exact⟨_,(by refine⟨?_,λhn=>?_⟩;(repeat(first|exact aM|(refine aD (by repeat(first|exact mem_cons_self|refine mem_cons_of_mem _ ?_)) ?_)));(simp only[Store.keys,map_cons,map_nil,nodup_cons,mem_cons,not_mem_nil,or_false,not_or,not_false_eq_true,true_and,nodup_nil,and_true,@eq_comm Nat]at hn ⊢ <;>simp only[hn,not_false_eq_true,and_self])),_,_,_,rfl,c1 _⟩
   ·exact⟨_,(by refine⟨?_,λhn=>?_⟩;(repeat(first|exact aM|(refine aD (by repeat(first|exact mem_cons_self|refine mem_cons_of_mem _ ?_)) ?_)));(simp only[Store.keys,map_cons,map_nil,nodup_cons,mem_cons,not_mem_nil,or_false,not_or,not_false_eq_true,true_and,nodup_nil,and_true,@eq_comm Nat]at hn ⊢ <;>simp only[hn,not_false_eq_true,and_self])),_,_,_,rfl,c2 _ _ _⟩
  ·rw[hst,hfst]
   (repeat' (first|(with_reducible (first|refine ab (λh=>?_) (λh=>?_)|refine ai (λh=>?_) (λh=>?_)|refine aj (λh=>?_) (λh=>?_))<;>(try simp only[Da,Db,Dc,Dw,De,Df,Dg,Dh]at h))|(with_reducible refine AI (by omega) ?_)|simp only[EVz,seval,↓reduceIte,EV6,EV7,hne]|simp only[EVz,seval,↓reduceIte,EV6,EV7]|(with_reducible intro blk hblk;(try(have hnx:=hblk;simp only[EVK]at hnx;first|(have hne:=AI hnx hne)|(have hne:=hnx))))|(with_reducible refine ae ?_ ?_)|(with_reducible refine af ?_)|(exfalso;omega)))
   all_goals exact hR _ _ (dG 4)
 ·rw[if_neg g1]
  simp only[if_neg g1]at hfst
  rw[not_or,Classical.not_not,Classical.not_not]at g1
  obtain⟨hi,hq⟩:=g1
  have hXl:=U.cs_len (fnd i u)
  by_cases g2:i=u.id\/q∈(fnd i u).ids\/nests (fnd q u).kind (fnd i u).kind=false
  ·rw[if_pos g2]
   have fin:∀t1 t2 t3:Bool,decide (i=u.id)=t1->hasP q (fnd i u)=t2->nests (fnd q u).kind (fnd i u).kind=t3->(t1||(t2|| !t3))=true->Pure G Tryz.prog 62 [.agg u.cs,.agg i.cs,.agg q.cs,.int .i64 k] (aO (noU,9)):=by
    intro t1 t2 t3 e1 e2 e3 e4
    rw[e2]at hH
    rw[e3]at hN
    obtain⟨X,hX⟩:∃X,fnd i u=X:=⟨_,rfl⟩
    obtain⟨P,hP⟩:∃P,fnd q u=P:=⟨_,rfl⟩
    rw[hX]at hF hH hN
    rw[hP]at hF2 hN
    rw[U.cs_eq X]at hF hH
    rw[U.cs_eq P]at hF2
    rw[hU]at c1 c2 hF hF2 ⊢
    refine Pure.wL c62 λR hR=>?_
    unfold s62 r62
    (repeat' (first|(with_reducible (first|refine ab (λh=>?_) (λh=>?_)|refine ai (λh=>?_) (λh=>?_)|refine aj (λh=>?_) (λh=>?_))<;>(try simp only[Da,Db,Dc,Dw,De,Df,Dg,Dh]at h))|(with_reducible refine AI (by omega) ?_)|simp only[EVz,seval,↓reduceIte,EV6,EV7,hne]|simp only[EVz,seval,↓reduceIte,EV6,EV7]|(with_reducible intro blk hblk;(try(have hnx:=hblk;simp only[EVK]at hnx;first|(have hne:=AI hnx hne)|(have hne:=hnx))))|(with_reducible refine ae ?_ ?_)|(with_reducible refine af ?_)|(refine⟨[[.sc _,.int .i64 _],[.sc _,.int .i64 _]],rfl,(by simp),rfl,?_⟩)|(exfalso;omega)))
    refine bG G (l:=[(_,!stP u,1),(_,(!hasP i u|| !hasP q u),4)]) rfl (by simp) (λy hy=>?_) ?_
    ·simp only[mem_cons,not_mem_nil,or_false]at hy
     rcases hy with rfl|rfl
     ·exact⟨_,(by refine⟨?_,λhn=>?_⟩;(repeat(first|exact aM|(refine aD (by repeat(first|exact mem_cons_self|refine mem_cons_of_mem _ ?_)) ?_)));(simp only[Store.keys,map_cons,map_nil,nodup_cons,mem_cons,not_mem_nil,or_false,not_or,not_false_eq_true,true_and,nodup_nil,and_true,@eq_comm Nat]at hn ⊢ <;>simp only[hn,not_false_eq_true,and_self])),_,_,_,rfl,c1 _⟩
     ·exact⟨_,(by refine⟨?_,λhn=>?_⟩;(repeat(first|exact aM|(refine aD (by repeat(first|exact mem_cons_self|refine mem_cons_of_mem _ ?_)) ?_)));(simp only[Store.keys,map_cons,map_nil,nodup_cons,mem_cons,not_mem_nil,or_false,not_or,not_false_eq_true,true_and,nodup_nil,and_true,@eq_comm Nat]at hn ⊢ <;>simp only[hn,not_false_eq_true,and_self])),_,_,_,rfl,c2 _ _ _⟩
    ·rw[hst,hfst]
     cases t1
     ·cases t2
      ·cases t3
       ·(repeat' (first|(with_reducible (first|refine ab (λh=>?_) (λh=>?_)|refine ai (λh=>?_) (λh=>?_)|refine aj (λh=>?_) (λh=>?_))<;>(try simp only[Da,Db,Dc,Dw,De,Df,Dg,Dh]at h))|(with_reducible refine AI (by omega) ?_)|(with_reducible first|refine aa hF ?_|refine aa hF2 ?_|refine aa hH ?_|refine aa hN ?_)|simp only[EVz,seval,↓reduceIte,EV6,EV7,idd_eq,e1,hne]|simp only[EVz,seval,↓reduceIte,EV6,EV7,idd_eq,e1]|(with_reducible intro blk hblk;(try(have hnx:=hblk;simp only[EVK]at hnx;first|(have hne:=AI hnx hne)|(have hne:=hnx))))|(with_reducible refine ae ?_ ?_)|(with_reducible refine af ?_)|(exfalso;omega)))
        all_goals exact hR _ _ (dG 9)
       ·cases e4
      ·(repeat' (first|(with_reducible (first|refine ab (λh=>?_) (λh=>?_)|refine ai (λh=>?_) (λh=>?_)|refine aj (λh=>?_) (λh=>?_))<;>(try simp only[Da,Db,Dc,Dw,De,Df,Dg,Dh]at h))|(with_reducible refine AI (by omega) ?_)|(with_reducible first|refine aa hF ?_|refine aa hF2 ?_|refine aa hH ?_|refine aa hN ?_)|simp only[EVz,seval,↓reduceIte,EV6,EV7,idd_eq,e1,hne]|simp only[EVz,seval,↓reduceIte,EV6,EV7,idd_eq,e1]|(with_reducible intro blk hblk;(try(have hnx:=hblk;simp only[EVK]at hnx;first|(have hne:=AI hnx hne)|(have hne:=hnx))))|(with_reducible refine ae ?_ ?_)|(with_reducible refine af ?_)|(exfalso;omega)))
       all_goals exact hR _ _ (dG 9)
     ·(repeat' (first|(with_reducible (first|refine ab (λh=>?_) (λh=>?_)|refine ai (λh=>?_) (λh=>?_)|refine aj (λh=>?_) (λh=>?_))<;>(try simp only[Da,Db,Dc,Dw,De,Df,Dg,Dh]at h))|(with_reducible refine AI (by omega) ?_)|(with_reducible first|refine aa hF ?_|refine aa hF2 ?_|refine aa hH ?_|refine aa hN ?_)|simp only[EVz,seval,↓reduceIte,EV6,EV7,idd_eq,e1,hne]|simp only[EVz,seval,↓reduceIte,EV6,EV7,idd_eq,e1]|(with_reducible intro blk hblk;(try(have hnx:=hblk;simp only[EVK]at hnx;first|(have hne:=AI hnx hne)|(have hne:=hnx))))|(with_reducible refine ae ?_ ?_)|(with_reducible refine af ?_)|(exfalso;omega)))
      all_goals exact hR _ _ (dG 9)
   refine fin _ _ _ rfl rfl rfl ?_
   rcases g2 with h|h|h
   ·simp[h]
   ·simp[hasP,h]
   ·simp[h]
  ·rw[if_neg g2]
   rw[not_or,not_or]at g2
   obtain⟨n1,n2,n3⟩:=g2
   have n3:nests (fnd q u).kind (fnd i u).kind=true:=by simpa using n3
   have hne0:u.id≠i:=λe=>n1 e.symm
   have e1:decide (i=u.id)=false:=decide_eq_false n1
   rw[n3]at hN
   rw[show hasP q (fnd i u)=false from decide_eq_false n2]at hH
   obtain⟨gr,_,_,_⟩:=cN hg hi hne0
   have hqr:=mov_in hg hi hne0 hq n2
   have hrs:=gr.short
   have hWo:=f115 G u hs hg.nd i hi hne0 (λp hp=>cT (hg.node p hp))
   have hF3:=cj G q (without i u) hrs
   have hfx:=(hs.node (aP u hg.nd hi)).1.2
   have hkr:=gq gr q
   have c3:=λa b c d=>f123 G a b c d (fnd q (without i u)) (without i u) (fnd i u) q hrs (by have:=gr.cnt;omega) hxs (by omega) (by omega)
   have c4:=λa b=>f126 G a b k (fnd q (without i u))
   have c5:=λa b=>f127 G a b (fnd q (without i u)) (fnd i u) (by omega)
   have hfst2:=λf1 f2 f3=>kb (fnd q (without i u)) (fnd i u) k ((anc q (without i u)).length:Int) f1 f2 f3
   rw[lev_anc hqr]
   obtain⟨X,hX⟩:∃X,fnd i u=X:=⟨_,rfl⟩
   obtain⟨P,hP⟩:∃P,fnd q u=P:=⟨_,rfl⟩
   obtain⟨W,hW⟩:∃W,without i u=W:=⟨_,rfl⟩
   rw[hW]at hWo hF3 hkr ⊢
   simp only[hW]at c3 c4 c5 hfst2
   obtain⟨Q,hQ⟩:∃Q,fnd q W=Q:=⟨_,rfl⟩
   rw[hQ]at hF3 hkr ⊢
   simp only[hQ]at c3 c4 c5 hfst2
   rw[hX]at hF hH hN ⊢
   simp only[hX]at c3 c5 hfst2
   rw[hP]at hF2 hN
   obtain⟨n,hn⟩:∃n,(anc q W).length=n:=⟨_,rfl⟩
   simp only[hn]at c3 hfst2
   rw[hn]
   obtain⟨e,he⟩:∃e,(if k<0\/(Q.kids.length:Int)<k then 3 else if taken Q.kids X.kind X.label=true then 10 else if 64<=Q.kids.length\/8<(n:Int)+1+X.dep then 6 else (0:Int))=e:=⟨_,rfl⟩
   simp only[he]at hfst2
   have hres:(if k<0\/(Q.kids.length:Int)<k then (noU,(3:Int))else if taken Q.kids X.kind X.label=true then (noU,10)else if 64<=Q.kids.length\/8<(n:Int)+1+X.dep then (noU,6)else (U.wth q (λy=>{y with kids:=insAt y.kids k.toNat X}) W,0))=if e≠0 then (noU,e)else (U.wth q (λy=>{y with kids:=insAt y.kids k.toNat X}) W,0):=by
    subst he
    by_cases g1:k<0\/(Q.kids.length:Int)<k
    ·rw[if_pos g1,if_pos g1,if_pos (by simp)]
    rw[if_neg g1,if_neg g1]
    by_cases g2:taken Q.kids X.kind X.label=true
    ·rw[if_pos g2,if_pos g2,if_pos (by simp)]
    rw[if_neg g2,if_neg g2]
    by_cases g3:64<=Q.kids.length\/8<(n:Int)+1+X.dep
    ·rw[if_pos g3,if_pos g3,if_pos (by simp)]
    rw[if_neg g3,if_neg g3,if_neg (by simp)]
   rw[hres]
   simp only[Idd.cs]at hWo hF3 c3
   by_cases hE:e=0
   ·subst hE
    rw[if_neg (by simp)]
    have hk:0<=k/\k<=Q.kids.length:=by
     by_cases g1:k<0\/(Q.kids.length:Int)<k
     ·rw[if_pos g1]at he;cases he
     ·omega
    obtain⟨j,rfl⟩:∃j:Nat,k=j:=⟨k.toNat,by omega⟩
    rw[Int.toNat_natCast]
    have:=mv_ok G hG u hg h0 i q j hi hq n1 n2 n3 (by simpa[hX,hW,hQ,hn]using he)
    rw[hX,hW]at this
    exact this
   ·have e2:decide (e≠0)=true:=decide_eq_true hE
    rw[if_pos hE]
    rw[U.cs_eq X]at hF hH c3 c5
    rw[U.cs_eq P]at hF2
    rw[U.cs_eq W]at hWo hF3 c3
    rw[U.cs_eq Q]at hF3 c3 c4 c5
    rw[hU]at c1 c2 hF hF2 hWo ⊢
    refine Pure.wL c62 λR hR=>?_
    unfold s62 r62
    (repeat' (first|(with_reducible (first|refine ab (λh=>?_) (λh=>?_)|refine ai (λh=>?_) (λh=>?_)|refine aj (λh=>?_) (λh=>?_))<;>(try simp only[Da,Db,Dc,Dw,De,Df,Dg,Dh]at h))|(with_reducible refine AI (by omega) ?_)|simp only[EVz,seval,↓reduceIte,EV6,EV7,hne]|simp only[EVz,seval,↓reduceIte,EV6,EV7]|(with_reducible intro blk hblk;(try(have hnx:=hblk;simp only[EVK]at hnx;first|(have hne:=AI hnx hne)|(have hne:=hnx))))|(with_reducible refine ae ?_ ?_)|(with_reducible refine af ?_)|(refine⟨[[.sc _,.int .i64 _],[.sc _,.int .i64 _]],rfl,(by simp),rfl,?_⟩)|(exfalso;omega)))
    refine bG G (l:=[(_,!stP u,1),(_,(!hasP i u|| !hasP q u),4)]) rfl (by simp) (λy hy=>?_) ?_
    ·simp only[mem_cons,not_mem_nil,or_false]at hy
     rcases hy with rfl|rfl
     ·exact⟨_,(by refine⟨?_,λhn=>?_⟩;(repeat(first|exact aM|(refine aD (by repeat(first|exact mem_cons_self|refine mem_cons_of_mem _ ?_)) ?_)));(simp only[Store.keys,map_cons,map_nil,nodup_cons,mem_cons,not_mem_nil,or_false,not_or,not_false_eq_true,true_and,nodup_nil,and_true,@eq_comm Nat]at hn ⊢ <;>simp only[hn,not_false_eq_true,and_self])),_,_,_,rfl,c1 _⟩
     ·exact⟨_,(by refine⟨?_,λhn=>?_⟩;(repeat(first|exact aM|(refine aD (by repeat(first|exact mem_cons_self|refine mem_cons_of_mem _ ?_)) ?_)));(simp only[Store.keys,map_cons,map_nil,nodup_cons,mem_cons,not_mem_nil,or_false,not_or,not_false_eq_true,true_and,nodup_nil,and_true,@eq_comm Nat]at hn ⊢ <;>simp only[hn,not_false_eq_true,and_self])),_,_,_,rfl,c2 _ _ _⟩
    ·rw[hst,hfst]
     (repeat' (first|(with_reducible (first|refine ab (λh=>?_) (λh=>?_)|refine ai (λh=>?_) (λh=>?_)|refine aj (λh=>?_) (λh=>?_))<;>(try simp only[Da,Db,Dc,Dw,De,Df,Dg,Dh]at h))|(with_reducible refine AI (by omega) ?_)|(with_reducible first|refine aa hF ?_|refine aa hF2 ?_|refine aa hH ?_|refine aa hN ?_|refine aa hWo ?_|refine aa hF3 ?_)|simp only[EVz,seval,↓reduceIte,EV6,EV7,idd_eq,e1,hne]|simp only[EVz,seval,↓reduceIte,EV6,EV7,idd_eq,e1]|(with_reducible intro blk hblk;(try(have hnx:=hblk;simp only[EVK]at hnx;first|(have hne:=AI hnx hne)|(have hne:=hnx))))|(with_reducible refine ae ?_ ?_)|(with_reducible refine af ?_)|(refine⟨[[.sc _,.int .i64 _],[.sc _,.int .i64 _],[.sc _,.int .i64 _]],rfl,(by simp),rfl,?_⟩)|(exfalso;omega)))
     refine bG G (l:=[(_,(decide (k<0)||decide ((Q.kids.length:Int)<k)),3),(_,taken Q.kids X.kind X.label,10),(_,(decide (64<=(Q.kids.length:Int))||decide (8<(n:Int)+1+X.dep)),6)]) rfl (by simp) (λy hy=>?_) ?_
     ·simp only[mem_cons,not_mem_nil,or_false]at hy
      rcases hy with rfl|rfl|rfl
      ·exact⟨_,(by refine⟨?_,λhn=>?_⟩;(repeat(first|exact aM|(refine aD (by repeat(first|exact mem_cons_self|refine mem_cons_of_mem _ ?_)) ?_)));(simp only[Store.keys,map_cons,map_nil,nodup_cons,mem_cons,not_mem_nil,or_false,not_or,not_false_eq_true,true_and,nodup_nil,and_true,@eq_comm Nat]at hn ⊢ <;>simp only[hn,not_false_eq_true,and_self])),_,_,_,rfl,c4 _ _⟩
      ·exact⟨_,(by refine⟨?_,λhn=>?_⟩;(repeat(first|exact aM|(refine aD (by repeat(first|exact mem_cons_self|refine mem_cons_of_mem _ ?_)) ?_)));(simp only[Store.keys,map_cons,map_nil,nodup_cons,mem_cons,not_mem_nil,or_false,not_or,not_false_eq_true,true_and,nodup_nil,and_true,@eq_comm Nat]at hn ⊢ <;>simp only[hn,not_false_eq_true,and_self])),_,_,_,rfl,c5 _ _⟩
      ·exact⟨_,(by refine⟨?_,λhn=>?_⟩;(repeat(first|exact aM|(refine aD (by repeat(first|exact mem_cons_self|refine mem_cons_of_mem _ ?_)) ?_)));(simp only[Store.keys,map_cons,map_nil,nodup_cons,mem_cons,not_mem_nil,or_false,not_or,not_false_eq_true,true_and,nodup_nil,and_true,@eq_comm Nat]at hn ⊢ <;>simp only[hn,not_false_eq_true,and_self])),_,_,_,rfl,c3 _ _ _ _⟩
     ·rw[hfst2]
      (repeat' (first|(with_reducible (first|refine ab (λh=>?_) (λh=>?_)|refine ai (λh=>?_) (λh=>?_)|refine aj (λh=>?_) (λh=>?_))<;>(try simp only[Da,Db,Dc,Dw,De,Df,Dg,Dh]at h))|(with_reducible refine AI (by omega) ?_)|simp only[EVz,seval,↓reduceIte,EV6,EV7,e2,hne]|simp only[EVz,seval,↓reduceIte,EV6,EV7,e2]|(with_reducible intro blk hblk;(try(have hnx:=hblk;simp only[EVK]at hnx;first|(have hne:=AI hnx hne)|(have hne:=hnx))))|(with_reducible refine ae ?_ ?_)|(with_reducible refine af ?_)|(exfalso;omega)))
      all_goals exact hR _ _ (dG e)
end
end Go.Av
