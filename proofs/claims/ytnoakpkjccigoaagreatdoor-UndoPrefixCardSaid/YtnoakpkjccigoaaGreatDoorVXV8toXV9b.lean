/-
  UNDO, walks 8: a unit put in, a unit taken out: as the document says.
-/
import Derived.Test.YtnoakpkjccigoaaGreatDoorVXM27toXV6
import Derived.Test.YtnoakpkjccigoaaGreatDoorVXU1toXU12
namespace Go.Av
open Go Go.RowKit Go.Proofs List
set_option linter.unusedSimpArgs false
set_option linter.unusedVariables false
theorem ag.leRep {G:Glob} {P:Program} {k:FuncId} {args:List AV} {σ:Store} {r0:AV} {R1:Store->Prop} (h:ag G P k args σ (λr σ'=>LeRep r r0/\R1 σ')):ag G P k args σ (λr σ'=>r=r0/\R1 σ'):=
 ⟨h.1,λρ w vs M I=>(h.2 ρ w vs M I).mono (by
  rintro e w' ⟨v,r,σ',rfl,⟨N,F⟩,E,J,D⟩
  exact⟨v,r0,σ',rfl,⟨rfl,F⟩,E,J,N _ _ _ D⟩)⟩
theorem fit_rng {u:U} {q:Idd} {k:Int} {x:U} (h:en u q k x=0):0<=k/\k<=(fnd q u).kids.length:=by
 unfold en at h
 split at h
 ·cases h
 split at h
 ·cases h
 split at h
 ·cases h
 split at h
 ·cases h
 ·rename_i c;omega
def remU (u:U) (i:Idd):U:=if (remT u i).2≠0 then noU else fnd i u
theorem rem_ok {u:U} {i:Idd} (h:(remT u i).2=0):i∈u.ids/\u.id≠i/\(remT u i).1=without i u:=by
 unfold remT at*
 split at h
 ·cases h
 rename_i c1
 split at h
 ·cases h
 rename_i c2
 split at h
 ·cases h
 rename_i c3
 rw[if_neg c1,if_neg c2,if_neg c3]
 exact⟨by simpa using c2,c3,rfl⟩
theorem rem_bad {u:U} {i:Idd} (h:(remT u i).2≠0):(remT u i).1=noU:=by
 unfold remT at*
 split
 ·rfl
 rename_i c1
 rw[if_neg c1]at h
 split
 ·rfl
 rename_i c2
 rw[if_neg c2]at h
 split
 ·rfl
 rename_i c3
 rw[if_neg c3]at h
 exact absurd rfl h
section
variable (G:Glob) (hG:GOk G)
include hG
set_option maxHeartbeats 4000000 in
theorem f60 (u:U) (V:Good u) (h0:u.kind=0) (q:Idd) (k:Int) (x:U) (hx:x.Short) (ac:x.flat.length<=1000000):Pure G Tryz.prog 60 [.agg u.cs,.agg q.cs,.int .i64 k,.agg x.cs] (aO (insT u q k x)):=by
 have hs:=V.short
 have J:=f117 G hG u (d6 V h0) hs (by have:=V.cnt;omega) q k x hx ac
 simp only[Idd.cs]at J
 unfold insT
 obtain⟨F,N⟩:∃F,en u q k x=F:=⟨_,rfl⟩
 rw[N]at J ⊢
 have hU:=U.cs_eq u
 have hX:=U.cs_eq x
 by_cases M:F=0
 ·subst M
  have hq:=fit_mem N
  have hr:=fit_rng N
  obtain⟨j,rfl⟩:∃j:Nat,k=j:=⟨k.toNat,by omega⟩
  have al:=gq V q
  have X:=λa b=>f118 G _ _ _ q u hs V.nd hq (v212 G a b j x (fnd q u) (by omega) (by omega) hx)
  rw[if_neg (by simp),Int.toNat_natCast]
  have O:=U.cs_len (U.wth q (λz=>{z with kids:=insAt z.kids j x}) u)
  have hP:=f119 G (j:Int) x
  simp only[Idd.cs]at X
  unfold aO
  simp only
  generalize (U.wth q (λz=>{z with kids:=insAt z.kids j x}) u).cs=ys at*
  have T:ys.take 8=ys:=take_of_length_le (by omega)
  rw[hU]at J X ⊢
  rw[hX]at J X hP ⊢
  refine Pure.w c60 λR Z=>?_
  unfold s60 r60
  (repeat' (first|(with_reducible (first|refine ab (λh=>?_) (λh=>?_)|refine ai (λh=>?_) (λh=>?_)|refine aj (λh=>?_) (λh=>?_))<;>(try simp only[DZ]at h))|(with_reducible first|refine AI (by omega) ?_|refine aa J ?_)|simp only[EVz,seval,↓reduceIte,EV6,EV7,O,T,D]|simp only[EVz,seval,↓reduceIte,EV6,EV7,O,T]|(with_reducible intro Y I;(try(have E:=I;simp only[EVK]at E;first|(have D:=AI E D)|(have D:=E))))|(with_reducible first|refine ae ?_ ?_|refine af ?_)|(refine av [] _ hP.v (ax.rfl' _) (SubN.refl _) (λr σ' hh ah=>?_);obtain⟨ba,bb,rfl,rfl⟩:=hh;(have D:=ah);(try simp[Store.keys]at D))|(refine ce (X _ _).v (SubN.cons (SubN.cons (SubN.nil _) _) _) ?_)|(exfalso;omega)))
  all_goals exact Z _ _ (.inl (.inl (by first|rfl|(simp[O,T];done))))
 ·have e1:decide (F≠0)=true:=decide_eq_true M
  rw[if_pos M]
  rw[hU,hX]at J ⊢
  refine Pure.wL c60 λR Z=>?_
  unfold s60 r60
  (repeat' (first|(with_reducible (first|refine ab (λh=>?_) (λh=>?_)|refine ai (λh=>?_) (λh=>?_)|refine aj (λh=>?_) (λh=>?_))<;>(try simp only[DZ]at h))|(with_reducible first|refine AI (by omega) ?_|refine aa J ?_)|simp only[EVz,seval,↓reduceIte,EV6,EV7,e1,D]|simp only[EVz,seval,↓reduceIte,EV6,EV7,e1]|(with_reducible intro Y I;(try(have E:=I;simp only[EVK]at E;first|(have D:=AI E D)|(have D:=E))))|(with_reducible first|refine ae ?_ ?_|refine af ?_)|(exfalso;omega)))
  all_goals exact Z _ _ (dG F)
theorem f110 (b:Nat) (u:U) (M:u.Short):ag G Tryz.prog 110 [.sc (.pointer (some ⟨b,0,none⟩))] [(b,.cells 27 u.cs)] λr σ'=>r= .bool (!stP u)/\σ'=[(b,.cells 27 u.cs)]:=by
 have I:=f111 G hG u M
 refine ag.w c110 ?_
 unfold s110 r110
 rw[U.cs_eq u]at I ⊢
 (repeat' (first|(with_reducible (first|refine ab (λh=>?_) (λh=>?_)|refine ai (λh=>?_) (λh=>?_)|refine aj (λh=>?_) (λh=>?_))<;>(try simp only[DZ]at h))|(with_reducible first|refine AI (by omega) ?_|refine aa I ?_)|simp only[EVz,seval,↓reduceIte,EV6,EV7,D]|simp only[EVz,seval,↓reduceIte,EV6,EV7]|(with_reducible intro J F;(try(have E:=F;simp only[EVK]at E;first|(have D:=AI E D)|(have D:=E))))|(with_reducible first|refine ae ?_ ?_|refine af ?_)|(exfalso;omega)))
 all_goals exact RET.keep rfl (SubN.refl _)
omit hG
theorem f112 (b c:Nat) (u:U) (O:u.Short) (i:Idd):ag G Tryz.prog 112 [.sc (.pointer (some ⟨b,0,none⟩)),.sc (.pointer (some ⟨c,0,none⟩))] [(b,.cells 27 u.cs),(c,.cells 23 i.cs)] λr σ'=>r= .bool (!hasP i u)/\σ'=[(b,.cells 27 u.cs),(c,.cells 23 i.cs)]:=by
 have J:=f113 G i u O
 simp only[Idd.cs]at J
 refine ag.wn c112 λI=>?_
 have M:¬b=c:=by simp[Store.keys]at I;exact I
 unfold s112 r112
 rw[U.cs_eq u]at J ⊢
 (repeat' (first|(with_reducible (first|refine ab (λh=>?_) (λh=>?_)|refine ai (λh=>?_) (λh=>?_)|refine aj (λh=>?_) (λh=>?_))<;>(try simp only[DZ]at h))|(with_reducible first|refine AI (by omega) ?_|refine aa J ?_)|simp only[EVz,seval,↓reduceIte,EV6,EV7,M,D]|simp only[EVz,seval,↓reduceIte,EV6,EV7,M]|(with_reducible intro N F;(try(have E:=F;simp only[EVK]at E;first|(have D:=AI E D)|(have D:=E))))|(with_reducible first|refine ae ?_ ?_|refine af ?_)|(exfalso;omega)))
 all_goals exact RET.keep rfl (SubN.refl _)
theorem f114 (b c:Nat) (u:U) (i:Idd):ag G Tryz.prog 114 [.sc (.pointer (some ⟨b,0,none⟩)),.sc (.pointer (some ⟨c,0,none⟩))] [(b,.cells 27 u.cs),(c,.cells 23 i.cs)] λr σ'=>r= .bool (decide (u.id=i))/\σ'=[(b,.cells 27 u.cs),(c,.cells 23 i.cs)]:=by
 refine ag.wn c114 λI=>?_
 have J:¬b=c:=by simp[Store.keys]at I;exact I
 unfold s114 r114
 rw[U.cs_eq u]
 (repeat' (first|(with_reducible (first|refine ab (λh=>?_) (λh=>?_)|refine ai (λh=>?_) (λh=>?_)|refine aj (λh=>?_) (λh=>?_))<;>(try simp only[DZ]at h))|(with_reducible refine AI (by omega) ?_)|simp only[EVz,seval,↓reduceIte,EV6,EV7,J,gv,D]|simp only[EVz,seval,↓reduceIte,EV6,EV7,J,gv]|(with_reducible intro M F;(try(have E:=F;simp only[EVK]at E;first|(have D:=AI E D)|(have D:=E))))|(with_reducible first|refine ae ?_ ?_|refine af ?_)|(exfalso;omega)))
 all_goals exact RET.keep rfl (SubN.refl _)
include hG
set_option maxHeartbeats 4000000 in
theorem f58 (u:U) (hg:Good u) (i:Idd):Pure G Tryz.prog 58 [.agg u.cs,.agg i.cs] (.tup [.agg (remT u i).1.cs,.agg (remU u i).cs,.int .i64 (remT u i).2]):=by
 have hs:=hg.short
 have c1:=λb=>f110 G hG b u hs
 have c2:=λb c=>f112 G b c u hs i
 have c3:=λb c=>f114 G b c u i
 have N:=λf1 f2 f3=>rem_first u i f1 f2 f3
 have hU:=U.cs_eq u
 obtain⟨e,Y⟩:∃e,(remT u i).2=e:=⟨_,rfl⟩
 have ac:(remU u i)=if e≠0 then noU else fnd i u:=by unfold remU;rw[Y]
 rw[ac]
 simp only[Y]at N
 rw[Y]
 simp only[Idd.cs]at c2 c3
 by_cases h0:e=0
 ·subst h0
  obtain⟨hi,Z,hw⟩:=rem_ok Y
  rw[hw,if_neg (by simp)]
  have V:=f115 G u hs hg.nd i hi Z (λp hp=>cT (hg.node p hp))
  have hF:=cj G i u hs
  have hC:=f116 G (fnd i u) (fb hs i)
  have J:=U.cs_len (without i u)
  have M:=U.cs_len (fnd i u)
  generalize (without i u).cs=xs at*
  generalize (fnd i u).cs=ys at*
  have O:xs.take 8=xs:=take_of_length_le (by omega)
  have T:ys.take 8=ys:=take_of_length_le (by omega)
  simp only[Idd.cs]at V hF
  rw[hU]at c1 c2 c3 V hF ⊢
  refine Pure.w c58 λR hR=>?_
  unfold s58 r58
  (repeat' (first|(with_reducible (first|refine ab (λh=>?_) (λh=>?_)|refine ai (λh=>?_) (λh=>?_)|refine aj (λh=>?_) (λh=>?_))<;>(try simp only[DZ]at h))|(with_reducible first|refine AI (by omega) ?_|refine aa V ?_|refine aa hF ?_|refine aa hC ?_)|simp only[EVz,seval,↓reduceIte,EV6,EV7,J,M,O,T,D]|simp only[EVz,seval,↓reduceIte,EV6,EV7,J,M,O,T]|(with_reducible intro X F;(try(have E:=F;simp only[EVK]at E;first|(have D:=AI E D)|(have D:=E))))|(with_reducible first|refine ae ?_ ?_|refine af ?_)|(refine⟨[[.sc _,.int .i64 _],[.sc _,.int .i64 _],[.sc _,.int .i64 _]],rfl,(by simp),rfl,?_⟩)|(exfalso;omega)))
  refine bG G (l:=[(_,!stP u,1),(_,!hasP i u,4),(_,decide (u.id=i),9)]) rfl (by simp) (λy hy=>?_) ?_
  ·simp only[mem_cons,not_mem_nil,or_false]at hy
   rcases hy with rfl|rfl|rfl
   ·exact⟨_,(by refine⟨?_,λI=>?_⟩;(repeat(first|exact aM|(refine aD (by repeat(first|exact mem_cons_self|refine mem_cons_of_mem _ ?_)) ?_)));(simp only[Store.keys,map_cons,map_nil,nodup_cons,mem_cons,not_mem_nil,or_false,not_or,not_false_eq_true,true_and,nodup_nil,and_true,@eq_comm Nat]at I ⊢ <;>simp only[I,not_false_eq_true,and_self])),_,_,_,rfl,c1 _⟩
   ·exact⟨_,(by refine⟨?_,λI=>?_⟩;(repeat(first|exact aM|(refine aD (by repeat(first|exact mem_cons_self|refine mem_cons_of_mem _ ?_)) ?_)));(simp only[Store.keys,map_cons,map_nil,nodup_cons,mem_cons,not_mem_nil,or_false,not_or,not_false_eq_true,true_and,nodup_nil,and_true,@eq_comm Nat]at I ⊢ <;>simp only[I,not_false_eq_true,and_self])),_,_,_,rfl,c2 _ _⟩
   ·exact⟨_,(by refine⟨?_,λI=>?_⟩;(repeat(first|exact aM|(refine aD (by repeat(first|exact mem_cons_self|refine mem_cons_of_mem _ ?_)) ?_)));(simp only[Store.keys,map_cons,map_nil,nodup_cons,mem_cons,not_mem_nil,or_false,not_or,not_false_eq_true,true_and,nodup_nil,and_true,@eq_comm Nat]at I ⊢ <;>simp only[I,not_false_eq_true,and_self])),_,_,_,rfl,c3 _ _⟩
  ·rw[N]
   (repeat' (first|(with_reducible (first|refine ab (λh=>?_) (λh=>?_)|refine ai (λh=>?_) (λh=>?_)|refine aj (λh=>?_) (λh=>?_))<;>(try simp only[DZ]at h))|(with_reducible first|refine AI (by omega) ?_|refine aa V ?_|refine aa hF ?_|refine aa hC ?_)|simp only[EVz,seval,↓reduceIte,EV6,EV7,J,M,O,T,D]|simp only[EVz,seval,↓reduceIte,EV6,EV7,J,M,O,T]|(with_reducible intro X F;(try(have E:=F;simp only[EVK]at E;first|(have D:=AI E D)|(have D:=E))))|(with_reducible first|refine ae ?_ ?_|refine af ?_)|(exfalso;omega)))
   all_goals exact hR _ _ (.inl (.inl (by first|rfl|(simp[J,M,O,T];done))))
 ·have e1:decide (e≠0)=true:=decide_eq_true h0
  rw[if_pos h0,rem_bad (by rw[Y];exact h0)]
  rw[hU]at c1 c2 c3 ⊢
  refine Pure.wL c58 λR hR=>?_
  unfold s58 r58
  (repeat' (first|(with_reducible (first|refine ab (λh=>?_) (λh=>?_)|refine ai (λh=>?_) (λh=>?_)|refine aj (λh=>?_) (λh=>?_))<;>(try simp only[DZ]at h))|(with_reducible refine AI (by omega) ?_)|simp only[EVz,seval,↓reduceIte,EV6,EV7,e1,D]|simp only[EVz,seval,↓reduceIte,EV6,EV7,e1]|(with_reducible intro X F;(try(have E:=F;simp only[EVK]at E;first|(have D:=AI E D)|(have D:=E))))|(with_reducible first|refine ae ?_ ?_|refine af ?_)|(refine⟨[[.sc _,.int .i64 _],[.sc _,.int .i64 _],[.sc _,.int .i64 _]],rfl,(by simp),rfl,?_⟩)|(exfalso;omega)))
  refine bG G (l:=[(_,!stP u,1),(_,!hasP i u,4),(_,decide (u.id=i),9)]) rfl (by simp) (λy hy=>?_) ?_
  ·simp only[mem_cons,not_mem_nil,or_false]at hy
   rcases hy with rfl|rfl|rfl
   ·exact⟨_,(by refine⟨?_,λI=>?_⟩;(repeat(first|exact aM|(refine aD (by repeat(first|exact mem_cons_self|refine mem_cons_of_mem _ ?_)) ?_)));(simp only[Store.keys,map_cons,map_nil,nodup_cons,mem_cons,not_mem_nil,or_false,not_or,not_false_eq_true,true_and,nodup_nil,and_true,@eq_comm Nat]at I ⊢ <;>simp only[I,not_false_eq_true,and_self])),_,_,_,rfl,c1 _⟩
   ·exact⟨_,(by refine⟨?_,λI=>?_⟩;(repeat(first|exact aM|(refine aD (by repeat(first|exact mem_cons_self|refine mem_cons_of_mem _ ?_)) ?_)));(simp only[Store.keys,map_cons,map_nil,nodup_cons,mem_cons,not_mem_nil,or_false,not_or,not_false_eq_true,true_and,nodup_nil,and_true,@eq_comm Nat]at I ⊢ <;>simp only[I,not_false_eq_true,and_self])),_,_,_,rfl,c2 _ _⟩
   ·exact⟨_,(by refine⟨?_,λI=>?_⟩;(repeat(first|exact aM|(refine aD (by repeat(first|exact mem_cons_self|refine mem_cons_of_mem _ ?_)) ?_)));(simp only[Store.keys,map_cons,map_nil,nodup_cons,mem_cons,not_mem_nil,or_false,not_or,not_false_eq_true,true_and,nodup_nil,and_true,@eq_comm Nat]at I ⊢ <;>simp only[I,not_false_eq_true,and_self])),_,_,_,rfl,c3 _ _⟩
  ·rw[N]
   (repeat' (first|(with_reducible (first|refine ab (λh=>?_) (λh=>?_)|refine ai (λh=>?_) (λh=>?_)|refine aj (λh=>?_) (λh=>?_))<;>(try simp only[DZ]at h))|(with_reducible refine AI (by omega) ?_)|simp only[EVz,seval,↓reduceIte,EV6,EV7,e1,D]|simp only[EVz,seval,↓reduceIte,EV6,EV7,e1]|(with_reducible intro X F;(try(have E:=F;simp only[EVK]at E;first|(have D:=AI E D)|(have D:=E))))|(with_reducible first|refine ae ?_ ?_|refine af ?_)|(exfalso;omega)))
   all_goals exact hR _ _ (LeRep.tup (.cons po (.cons po (.cons (LeRep.refl _) .nil))))
end
theorem rel_first (u:U) (i:Idd) (s:List UInt8) (f1 f2 f3:Value):cc [(f1,!hasP i u,4),(f2,decide ((fnd i u).kind=0),9),(f3,(decide ((fnd i u).label=s)||co u i s),10)]
  =(if i∉u.ids then 4 else if (fnd i u).kind=0 then 9 else if (fnd i u).label=s\/co u i s=true then 10 else 0):=by
 simp only[cU,cc]
 by_cases hi:i∈u.ids
 ·have D:¬(!hasP i u)=true:=by simp[hasP,hi]
  have F:¬i∉u.ids:=λh=>h hi
  rw[if_neg D,if_neg F]
  by_cases c:(fnd i u).kind=0
  ·rw[if_pos (decide_eq_true c),if_pos c]
  ·have I:¬decide ((fnd i u).kind=0)=true:=by simpa using c
   rw[if_neg I,if_neg c]
   by_cases c2:(fnd i u).label=s\/co u i s=true
   ·have E:(decide ((fnd i u).label=s)||co u i s)=true:=by simpa using c2
    rw[if_pos E,if_pos c2]
   ·have E:¬(decide ((fnd i u).label=s)||co u i s)=true:=by simpa using c2
    rw[if_neg E,if_neg c2]
 ·have D:(!hasP i u)=true:=by simp[hasP,hi]
  rw[if_pos D,if_pos hi]
theorem wr_first (u:U) (i:Idd) (l:List Wd) (f:U->U) (f1 f2 f3 f4:Value):cc [(f1,(!stP u||l.any λw=>!bf w.text),1),(f2,!hasP i u,4),(f3,decide ((fnd i u).kind=0),9),(f4,decide (256<(l.length:Int)),6)]=(wrT u i l f).2:=by
 simp only[cU,cc]
 unfold wrT
 by_cases c0:stP u=false\/(l.any λw=>!bf w.text)=true
 ·have D:(!stP u||l.any λw=>!bf w.text)=true:=by simpa using c0
  rw[if_pos D,if_pos c0]
 have D:¬(!stP u||l.any λw=>!bf w.text)=true:=by simpa using c0
 rw[if_neg D,if_neg c0]
 by_cases hi:i∈u.ids
 ·have E:¬(!hasP i u)=true:=by simp[hasP,hi]
  have F:¬i∉u.ids:=λh=>h hi
  rw[if_neg E,if_neg F]
  by_cases c:(fnd i u).kind=0
  ·rw[if_pos (decide_eq_true c),if_pos c]
  ·have I:¬decide ((fnd i u).kind=0)=true:=by simpa using c
   rw[if_neg I,if_neg c]
   by_cases c2:256<l.length
   ·rw[if_pos (decide_eq_true (by omega)),if_pos c2]
   ·have J:¬decide (256<(l.length:Int))=true:=by simp only[decide_eq_true_eq];omega
    rw[if_neg J,if_neg c2]
 ·have E:(!hasP i u)=true:=by simp[hasP,hi]
  rw[if_pos E,if_pos hi]
theorem wr_ok {u:U} {i:Idd} {l:List Wd} {f:U->U} (h:(wrT u i l f).2=0):i∈u.ids/\(wrT u i l f).1=U.wth i f u:=by
 unfold wrT at*
 split at h
 ·cases h
 rename_i c1
 split at h
 ·cases h
 rename_i c2
 split at h
 ·cases h
 rename_i c3
 split at h
 ·cases h
 rename_i c4
 rw[if_neg c1,if_neg c2,if_neg c3,if_neg c4]
 exact⟨by simpa using c2,rfl⟩
theorem wr_bad {u:U} {i:Idd} {l:List Wd} {f:U->U} (h:(wrT u i l f).2≠0):(wrT u i l f).1=noU:=by
 unfold wrT at*
 split
 ·rfl
 rename_i c1
 rw[if_neg c1]at h
 split
 ·rfl
 rename_i c2
 rw[if_neg c2]at h
 split
 ·rfl
 rename_i c3
 rw[if_neg c3]at h
 split
 ·rfl
 rename_i c4
 rw[if_neg c4]at h
 exact absurd rfl h
theorem seq_one (s:List UInt8):dq [s]=bf s:=by unfold dq;simp
section
variable (G:Glob)
theorem f130 (N O V T:Nat) (u x:U) (hg:Good u) (i:Idd) (hx:x=fnd i u) (s:List UInt8):
  ag G Tryz.prog 130 [.sc (.pointer (some ⟨N,0,none⟩)),.sc (.pointer (some ⟨O,0,none⟩)),.sc (.pointer (some ⟨V,0,none⟩)),.sc (.pointer (some ⟨T,0,none⟩))]
   [(N,.cells 27 u.cs),(O,.cells 23 i.cs),(V,.cells 27 x.cs),(T,.cells 9 [.str s])]
   λr σ'=>r= .bool (decide (x.label=s)||co u i s)/\σ'=[(N,.cells 27 u.cs),(O,.cells 23 i.cs),(V,.cells 27 x.cs),(T,.cells 9 [.str s])]:=by
 have hs:=hg.short
 have F:=f131 G i u hs hg.nd
 unfold gW at F
 refine ag.wn c130 λal=>?_
 simp only[Store.keys,map_cons,map_nil,nodup_cons,mem_cons,not_mem_nil,or_false,not_or]at al
 obtain⟨⟨X,Y,Z⟩,⟨a4,a5⟩,a6,_⟩:=al
 have b1:¬O=N:=λe=>X e.symm
 have b2:¬V=N:=λe=>Y e.symm
 have b3:¬T=N:=λe=>Z e.symm
 have b4:¬V=O:=λe=>a4 e.symm
 have b5:¬T=O:=λe=>a5 e.symm
 have b6:¬T=V:=λe=>a6 e.symm
 unfold s130 r130
 unfold co
 rw[←hx]
 rcases hw:aF i u with _|⟨p,d,j⟩
 ·rw[hw]at F
  simp only at F ⊢
  have J:=cj G zId u hs
  simp only[Idd.cs]at F J
  have ac:=U.cs_len (fnd zId u)
  generalize (fnd zId u).cs=xs at*
  have an:xs.take 8=xs:=take_of_length_le (by omega)
  generalize hasP zId u=hz at*
  unfold zId at J
  rw[U.cs_eq u]at F J ⊢
  rw[U.cs_eq x]
  (repeat' (first|(with_reducible (refine ai (λh=>?_) (λh=>?_))<;>(try simp only[DZ]at h))|(with_reducible first|refine aa F ?_|refine aa J ?_)|simp only[EVz,seval,↓reduceIte,EV6,EV7,X,Y,Z,a4,a5,a6,b1,b2,b3,b4,b5,b6,ac,an,D]|simp only[EVz,seval,↓reduceIte,EV6,EV7,X,Y,Z,a4,a5,a6,b1,b2,b3,b4,b5,b6,ac,an]|(with_reducible intro aw I;(try(have E:=I;simp only[EVK]at E;first|(have D:=AI E D)|(have D:=E))))|fail))
  all_goals(refine RET.keep ?_ (by repeat(first|exact SubN.refl _|refine SubN.tail ?_ _));simp[h])
 ·rw[hw]at F
  simp only at F ⊢
  obtain⟨hj,ah,M⟩:=ei hg i _ hw
  simp only at hj ah M
  have J:=cj G p.id u hs
  rw[M.fnd]at J
  have hT:=f128 G p.kids x.kind s (by omega)
  generalize hasP p.id u=hz at*
  simp only[Idd.cs]at F J
  rw[U.cs_eq p]at J
  rw[U.cs_eq u]at F J ⊢
  rw[U.cs_eq x]
  (repeat' (first|(with_reducible (refine ai (λh=>?_) (λh=>?_))<;>(try simp only[DZ]at h))|(with_reducible first|refine aa F ?_|refine aa J ?_|refine aa hT ?_)|simp only[EVz,seval,↓reduceIte,EV6,EV7,X,Y,Z,a4,a5,a6,b1,b2,b3,b4,b5,b6,D]|simp only[EVz,seval,↓reduceIte,EV6,EV7,X,Y,Z,a4,a5,a6,b1,b2,b3,b4,b5,b6]|(with_reducible intro aw I;(try(have E:=I;simp only[EVK]at E;first|(have D:=AI E D)|(have D:=E))))|fail))
  all_goals(refine RET.keep ?_ (by repeat(first|exact SubN.refl _|refine SubN.tail ?_ _));simp[h])
theorem f132 (b:Nat) (t:Bool):ag G Tryz.prog 132 [.sc (.pointer (some ⟨b,0,none⟩))] [(b,.cells 4 [.bool t])] λr σ'=>r= .bool (!t)/\σ'=[(b,.cells 4 [.bool t])]:=by
 refine ag.w c132 ?_
 unfold s132 r132
 (repeat' (simp only[EVz,seval,↓reduceIte,EV6,EV7]))
 all_goals exact RET.keep rfl (SubN.refl _)
theorem f133 (b:Nat) (x:U):ag G Tryz.prog 133 [.sc (.pointer (some ⟨b,0,none⟩))] [(b,.cells 27 x.cs)] λr σ'=>r= .bool (decide (x.kind=0))/\σ'=[(b,.cells 27 x.cs)]:=by
 refine ag.w c133 ?_
 unfold s133 r133
 rw[U.cs_eq x]
 (repeat' (simp only[EVz,seval,↓reduceIte,EV6,EV7]))
 all_goals exact RET.keep rfl (SubN.refl _)
theorem v134 (b:Nat) (s:List UInt8) (x:U):iV G (.func (.func 134) #[] #[.pointer (some ⟨b,0,none⟩)]) (λz=>{z with label:=s}) [(b,.cells 9 [.str s])] x:=by
 refine⟨_,_,_,rfl,?_⟩
 show ag G Tryz.prog 134 [.agg x.cs,.sc (.pointer (some ⟨b,0,none⟩))] _ _
 refine ag.w c134 ?_
 unfold s134 r134
 rw[U.cs_eq x,U.cs_eq {x with label:=s}]
 (repeat' (first|simp only[EVz,seval,↓reduceIte,EV6,EV7,D]|simp only[EVz,seval,↓reduceIte,EV6,EV7]|(with_reducible intro I F;(try(have E:=F;simp only[EVK]at E;first|(have D:=AI E D)|(have D:=E))))|fail))
 all_goals exact RET.keep rfl (by repeat(first|exact SubN.refl _|refine SubN.tail ?_ _))
theorem v136 (b:Nat) (l:List Wd) (M:l.length<1000000) (x:U):iV G (.func (.func 136) #[] #[.pointer (some ⟨b,0,none⟩)]) (λz=>{z with words:=l}) [(b,.cells 24 [.lst 4 (l.map Wd.cs)])] x:=by
 have J:=f86p G l M
 refine⟨_,_,_,rfl,?_⟩
 show ag G Tryz.prog 136 [.agg x.cs,.sc (.pointer (some ⟨b,0,none⟩))] _ _
 refine ag.w c136 ?_
 unfold s136 r136
 rw[U.cs_eq x,U.cs_eq {x with words:=l}]
 (repeat' (first|(with_reducible refine aa J ?_)|simp only[EVz,seval,↓reduceIte,EV6,EV7,D]|simp only[EVz,seval,↓reduceIte,EV6,EV7]|(with_reducible intro I F;(try(have E:=F;simp only[EVK]at E;first|(have D:=AI E D)|(have D:=E))))|fail))
 all_goals exact RET.keep rfl (by repeat(first|exact SubN.refl _|refine SubN.tail ?_ _))
theorem v137 (b:Nat) (l:List Wd) (M:l.length<1000000) (x:U):iV G (.func (.func 137) #[] #[.pointer (some ⟨b,0,none⟩)]) (λz=>{z with head:=l}) [(b,.cells 24 [.lst 4 (l.map Wd.cs)])] x:=by
 have J:=f86p G l M
 refine⟨_,_,_,rfl,?_⟩
 show ag G Tryz.prog 137 [.agg x.cs,.sc (.pointer (some ⟨b,0,none⟩))] _ _
 refine ag.w c137 ?_
 unfold s137 r137
 rw[U.cs_eq x,U.cs_eq {x with head:=l}]
 (repeat' (first|(with_reducible refine aa J ?_)|simp only[EVz,seval,↓reduceIte,EV6,EV7,D]|simp only[EVz,seval,↓reduceIte,EV6,EV7]|(with_reducible intro I F;(try(have E:=F;simp only[EVK]at E;first|(have D:=AI E D)|(have D:=E))))|fail))
 all_goals exact RET.keep rfl (by repeat(first|exact SubN.refl _|refine SubN.tail ?_ _))
theorem f222 (w:Wd):Pure G Tryz.prog 222 [.agg w.cs] (.bool (!bf w.text)):=by
 have I:=f223 G [w.text] (by simp)
 rw[seq_one]at I
 refine Pure.w c222 λR M=>?_
 unfold s222 r222
 (repeat' (first|simp only[EVz,seval,↓reduceIte,EV6,EV7,Wd.cs,F]|simp only[EVz,seval,↓reduceIte,EV6,EV7,Wd.cs]|(with_reducible intro J D;(try(have E:=D;simp only[EVK]at E;(have F:=E))))|(refine⟨[[.str w.text]],rfl,(by simp),rfl,?_⟩)|(refine aE I ⟨.inl (.inr ⟨rfl,rfl⟩),trivial⟩ ?_)|fail))
 all_goals exact RQ M
end
section
variable (G:Glob) (hG:GOk G)
include hG
set_option maxHeartbeats 4000000 in
theorem f64 (u:U) (hg:Good u) (X:u.kind=0) (i:Idd) (s:List UInt8):Pure G Tryz.prog 64 [.agg u.cs,.agg i.cs,.str s] (aO (relT u i s)):=by
 have hs:=hg.short
 have O:=f111 G hG u hs
 have ah:=d6 hg X
 rw[ah]at O
 have Y:=f129 G s
 have hU:=U.cs_eq u
 unfold relT
 rw[ah]
 cases hl:br s with
 |false=>
  rw[hl]at Y
  rw[if_pos (.inr rfl),hU]
  rw[hU]at O
  refine Pure.wL c64 λR Z=>?_
  unfold s64 r64
  (repeat' (first|(with_reducible (first|refine ab (λh=>?_) (λh=>?_)|refine ai (λh=>?_) (λh=>?_)|refine aj (λh=>?_) (λh=>?_))<;>(try simp only[DZ]at h))|(with_reducible first|refine AI (by omega) ?_|refine aa O ?_|refine aa Y ?_)|simp only[EVz,seval,↓reduceIte,EV6,EV7,D]|simp only[EVz,seval,↓reduceIte,EV6,EV7]|(with_reducible intro M F;(try(have E:=F;simp only[EVK]at E;first|(have D:=AI E D)|(have D:=E))))|(with_reducible first|refine ae ?_ ?_|refine af ?_)|(exfalso;omega)))
  all_goals exact Z _ _ (dG 1)
 |true=>
  rw[hl]at Y
  rw[if_neg (by simp)]
  have N:=cj G i u hs
  have J:=λf1 f2 f3=>rel_first u i s f1 f2 f3
  obtain⟨x,hx⟩:∃x,fnd i u=x:=⟨_,rfl⟩
  have c1:=λa b c d=>f130 G a b c d u x hg i hx.symm s
  have c2:=λb=>f132 G b (hasP i u)
  have c3:=λb=>f133 G b x
  have hW:=λhi b=>f118 G _ _ _ i u hs hg.nd hi (v134 G b s (fnd i u))
  simp only[hx]at J
  rw[hx]at N ⊢
  obtain⟨e,he⟩:∃e,(if i∉u.ids then 4 else if x.kind=0 then 9 else if x.label=s\/co u i s=true then 10 else (0:Int))=e:=⟨_,rfl⟩
  simp only[he]at J
  have ac:(if i∉u.ids then (noU,(4:Int))else if x.kind=0 then (noU,9)else if x.label=s\/co u i s=true then (noU,10)else (U.wth i (λy=>{y with label:=s}) u,0))=if e≠0 then (noU,e)else (U.wth i (λy=>{y with label:=s}) u,0):=by
   subst he
   by_cases g1:i∉u.ids
   ·rw[if_pos g1,if_pos g1,if_pos (by simp)]
   rw[if_neg g1,if_neg g1]
   by_cases g2:x.kind=0
   ·rw[if_pos g2,if_pos g2,if_pos (by simp)]
   rw[if_neg g2,if_neg g2]
   by_cases g3:x.label=s\/co u i s=true
   ·rw[if_pos g3,if_pos g3,if_pos (by simp)]
   rw[if_neg g3,if_neg g3,if_neg (by simp)]
  rw[ac]
  have T:=U.cs_len (U.wth i (λy=>{y with label:=s}) u)
  simp only[Idd.cs]at N c1 hW
  by_cases X:e=0
  ·have hi:i∈u.ids:=by
    by_cases hi:i∈u.ids
    ·exact hi
    ·rw[if_pos hi,X]at he;cases he
   have hW:=hW hi
   subst X
   rw[if_neg (by simp)]
   unfold aO
   simp only
   generalize (U.wth i (λy=>{y with label:=s}) u).cs=ys at*
   have V:ys.take 8=ys:=take_of_length_le (by omega)
   rw[U.cs_eq x]at N c1 c3
   rw[hU]at O N c1 hW ⊢
   refine Pure.w c64 λR Z=>?_
   unfold s64 r64
   (repeat' (first|(with_reducible (first|refine ab (λh=>?_) (λh=>?_)|refine ai (λh=>?_) (λh=>?_)|refine aj (λh=>?_) (λh=>?_))<;>(try simp only[DZ]at h))|(with_reducible first|refine AI (by omega) ?_|refine aa O ?_|refine aa Y ?_|refine aa N ?_)|simp only[EVz,seval,↓reduceIte,EV6,EV7,D]|simp only[EVz,seval,↓reduceIte,EV6,EV7]|(with_reducible intro M F;(try(have E:=F;simp only[EVK]at E;first|(have D:=AI E D)|(have D:=E))))|(with_reducible first|refine ae ?_ ?_|refine af ?_)|(refine⟨[[.sc _,.int .i64 _],[.sc _,.int .i64 _],[.sc _,.int .i64 _]],rfl,(by simp),rfl,?_⟩)|(exfalso;omega)))
   refine bG G (l:=[(_,!hasP i u,4),(_,decide (x.kind=0),9),(_,(decide (x.label=s)||co u i s),10)]) rfl (by simp) (λy hy=>?_) ?_
   ·simp only[mem_cons,not_mem_nil,or_false]at hy
    rcases hy with rfl|rfl|rfl
    ·exact⟨_,(by refine⟨?_,λI=>?_⟩;(repeat(first|exact aM|(refine aD (by repeat(first|exact mem_cons_self|refine mem_cons_of_mem _ ?_)) ?_)));(simp only[Store.keys,map_cons,map_nil,nodup_cons,mem_cons,not_mem_nil,or_false,not_or,not_false_eq_true,true_and,nodup_nil,and_true,@eq_comm Nat]at I ⊢ <;>simp only[I,not_false_eq_true,and_self])),_,_,_,rfl,c2 _⟩
    ·exact⟨_,(by refine⟨?_,λI=>?_⟩;(repeat(first|exact aM|(refine aD (by repeat(first|exact mem_cons_self|refine mem_cons_of_mem _ ?_)) ?_)));(simp only[Store.keys,map_cons,map_nil,nodup_cons,mem_cons,not_mem_nil,or_false,not_or,not_false_eq_true,true_and,nodup_nil,and_true,@eq_comm Nat]at I ⊢ <;>simp only[I,not_false_eq_true,and_self])),_,_,_,rfl,c3 _⟩
    ·exact⟨_,(by refine⟨?_,λI=>?_⟩;(repeat(first|exact aM|(refine aD (by repeat(first|exact mem_cons_self|refine mem_cons_of_mem _ ?_)) ?_)));(simp only[Store.keys,map_cons,map_nil,nodup_cons,mem_cons,not_mem_nil,or_false,not_or,not_false_eq_true,true_and,nodup_nil,and_true,@eq_comm Nat]at I ⊢ <;>simp only[I,not_false_eq_true,and_self])),_,_,_,rfl,c1 _ _ _ _⟩
   ·rw[J]
    (repeat' (first|(with_reducible (first|refine ab (λh=>?_) (λh=>?_)|refine ai (λh=>?_) (λh=>?_)|refine aj (λh=>?_) (λh=>?_))<;>(try simp only[DZ]at h))|(with_reducible refine AI (by omega) ?_)|simp only[EVz,seval,↓reduceIte,EV6,EV7,T,V,D]|simp only[EVz,seval,↓reduceIte,EV6,EV7,T,V]|(with_reducible intro M F;(try(have E:=F;simp only[EVK]at E;first|(have D:=AI E D)|(have D:=E))))|(with_reducible first|refine ae ?_ ?_|refine af ?_)|(refine ce (hW _).v (by refine⟨?_,λI=>?_⟩;(repeat(first|exact aM|(refine aD (by repeat(first|exact mem_cons_self|refine mem_cons_of_mem _ ?_)) ?_)));(simp only[Store.keys,map_cons,map_nil,nodup_cons,mem_cons,not_mem_nil,or_false,not_or,not_false_eq_true,true_and,nodup_nil,and_true,@eq_comm Nat]at I ⊢ <;>simp only[I,not_false_eq_true,and_self])) ?_)|(exfalso;omega)))
    all_goals exact Z _ _ (.inl (.inl (by first|rfl|(simp[T,V];done))))
  ·have e1:decide (e≠0)=true:=decide_eq_true X
   rw[if_pos X]
   rw[U.cs_eq x]at N c1 c3
   rw[hU]at O N c1 ⊢
   refine Pure.wL c64 λR Z=>?_
   unfold s64 r64
   (repeat' (first|(with_reducible (first|refine ab (λh=>?_) (λh=>?_)|refine ai (λh=>?_) (λh=>?_)|refine aj (λh=>?_) (λh=>?_))<;>(try simp only[DZ]at h))|(with_reducible first|refine AI (by omega) ?_|refine aa O ?_|refine aa Y ?_|refine aa N ?_)|simp only[EVz,seval,↓reduceIte,EV6,EV7,D]|simp only[EVz,seval,↓reduceIte,EV6,EV7]|(with_reducible intro M F;(try(have E:=F;simp only[EVK]at E;first|(have D:=AI E D)|(have D:=E))))|(with_reducible first|refine ae ?_ ?_|refine af ?_)|(refine⟨[[.sc _,.int .i64 _],[.sc _,.int .i64 _],[.sc _,.int .i64 _]],rfl,(by simp),rfl,?_⟩)|(exfalso;omega)))
   refine bG G (l:=[(_,!hasP i u,4),(_,decide (x.kind=0),9),(_,(decide (x.label=s)||co u i s),10)]) rfl (by simp) (λy hy=>?_) ?_
   ·simp only[mem_cons,not_mem_nil,or_false]at hy
    rcases hy with rfl|rfl|rfl
    ·exact⟨_,(by refine⟨?_,λI=>?_⟩;(repeat(first|exact aM|(refine aD (by repeat(first|exact mem_cons_self|refine mem_cons_of_mem _ ?_)) ?_)));(simp only[Store.keys,map_cons,map_nil,nodup_cons,mem_cons,not_mem_nil,or_false,not_or,not_false_eq_true,true_and,nodup_nil,and_true,@eq_comm Nat]at I ⊢ <;>simp only[I,not_false_eq_true,and_self])),_,_,_,rfl,c2 _⟩
    ·exact⟨_,(by refine⟨?_,λI=>?_⟩;(repeat(first|exact aM|(refine aD (by repeat(first|exact mem_cons_self|refine mem_cons_of_mem _ ?_)) ?_)));(simp only[Store.keys,map_cons,map_nil,nodup_cons,mem_cons,not_mem_nil,or_false,not_or,not_false_eq_true,true_and,nodup_nil,and_true,@eq_comm Nat]at I ⊢ <;>simp only[I,not_false_eq_true,and_self])),_,_,_,rfl,c3 _⟩
    ·exact⟨_,(by refine⟨?_,λI=>?_⟩;(repeat(first|exact aM|(refine aD (by repeat(first|exact mem_cons_self|refine mem_cons_of_mem _ ?_)) ?_)));(simp only[Store.keys,map_cons,map_nil,nodup_cons,mem_cons,not_mem_nil,or_false,not_or,not_false_eq_true,true_and,nodup_nil,and_true,@eq_comm Nat]at I ⊢ <;>simp only[I,not_false_eq_true,and_self])),_,_,_,rfl,c1 _ _ _ _⟩
   ·rw[J]
    (repeat' (first|(with_reducible (first|refine ab (λh=>?_) (λh=>?_)|refine ai (λh=>?_) (λh=>?_)|refine aj (λh=>?_) (λh=>?_))<;>(try simp only[DZ]at h))|(with_reducible refine AI (by omega) ?_)|simp only[EVz,seval,↓reduceIte,EV6,EV7,e1,D]|simp only[EVz,seval,↓reduceIte,EV6,EV7,e1]|(with_reducible intro M F;(try(have E:=F;simp only[EVK]at E;first|(have D:=AI E D)|(have D:=E))))|(with_reducible first|refine ae ?_ ?_|refine af ?_)|(exfalso;omega)))
    all_goals exact Z _ _ (dG e)
theorem f224 (J M N:Nat) (u:U) (hs:u.Short) (l:List Wd) (hl:l.length<1000000):
  ag G Tryz.prog 224 [.sc (.pointer (some ⟨J,0,none⟩)),.sc (.pointer (some ⟨M,0,none⟩)),.sc (.pointer (some ⟨N,0,none⟩))]
   [(J,.cells 27 u.cs),(M,.cells 24 [.lst 4 (l.map Wd.cs)]),(N,.cells 205 [.sc (.func (.func 222) #[] #[])])]
   λr σ'=>r= .bool (!stP u||l.any λw=>!bf w.text)/\σ'=[(J,.cells 27 u.cs),(M,.cells 24 [.lst 4 (l.map Wd.cs)]),(N,.cells 205 [.sc (.func (.func 222) #[] #[])])]:=by
 have X:=f111 G hG u hs
 have Z:=f225 G _ (λw=>!bf w.text) l (by omega) (λx _=>(f222 G x).v)
 refine ag.wn c224 λI=>?_
 simp only[Store.keys,map_cons,map_nil,nodup_cons,mem_cons,not_mem_nil,or_false,not_or]at I
 obtain⟨⟨O,T⟩,V,_⟩:=I
 unfold s224 r224
 generalize stP u=t at*
 generalize (l.any λw=>!bf w.text)=t2 at*
 rw[U.cs_eq u]at X ⊢
 (repeat' (first|(with_reducible (first|refine ab (λh=>?_) (λh=>?_)|refine ai (λh=>?_) (λh=>?_)|refine aj (λh=>?_) (λh=>?_))<;>(try simp only[DZ]at h))|(with_reducible first|refine AI (by omega) ?_|refine aa X ?_|refine aa Z ?_)|simp only[EVz,seval,↓reduceIte,EV6,EV7,O,T,V,D]|simp only[EVz,seval,↓reduceIte,EV6,EV7,O,T,V]|(with_reducible intro Y F;(try(have E:=F;simp only[EVK]at E;first|(have D:=AI E D)|(have D:=E))))|(with_reducible first|refine ae ?_ ?_|refine af ?_)|(exfalso;omega)))
 all_goals(refine RET.keep ?_ (SubN.refl _);simp[*])
omit hG
theorem f226 (b:Nat) (t:Bool):ag G Tryz.prog 226 [.sc (.pointer (some ⟨b,0,none⟩))] [(b,.cells 4 [.bool t])] λr σ'=>r= .bool (!t)/\σ'=[(b,.cells 4 [.bool t])]:=by
 refine ag.w c226 ?_
 unfold s226 r226
 (repeat' (first|(with_reducible (first|refine ab (λh=>?_) (λh=>?_)|refine ai (λh=>?_) (λh=>?_)|refine aj (λh=>?_) (λh=>?_))<;>(try simp only[DZ]at h))|(with_reducible refine AI (by omega) ?_)|simp only[EVz,seval,↓reduceIte,EV6,EV7,D]|simp only[EVz,seval,↓reduceIte,EV6,EV7]|(with_reducible intro I F;(try(have E:=F;simp only[EVK]at E;first|(have D:=AI E D)|(have D:=E))))|(with_reducible first|refine ae ?_ ?_|refine af ?_)|(exfalso;omega)))
 all_goals exact RET.keep rfl (SubN.refl _)
theorem f227 (b:Nat) (x:U):ag G Tryz.prog 227 [.sc (.pointer (some ⟨b,0,none⟩))] [(b,.cells 27 x.cs)] λr σ'=>r= .bool (decide (x.kind=0))/\σ'=[(b,.cells 27 x.cs)]:=by
 refine ag.w c227 ?_
 unfold s227 r227
 rw[U.cs_eq x]
 (repeat' (first|(with_reducible (first|refine ab (λh=>?_) (λh=>?_)|refine ai (λh=>?_) (λh=>?_)|refine aj (λh=>?_) (λh=>?_))<;>(try simp only[DZ]at h))|(with_reducible refine AI (by omega) ?_)|simp only[EVz,seval,↓reduceIte,EV6,EV7,D]|simp only[EVz,seval,↓reduceIte,EV6,EV7]|(with_reducible intro I F;(try(have E:=F;simp only[EVK]at E;first|(have D:=AI E D)|(have D:=E))))|(with_reducible first|refine ae ?_ ?_|refine af ?_)|(exfalso;omega)))
 all_goals exact RET.keep rfl (SubN.refl _)
theorem f228 (b:Nat) (l:List Wd):ag G Tryz.prog 228 [.sc (.pointer (some ⟨b,0,none⟩))] [(b,.cells 24 [.lst 4 (l.map Wd.cs)])] λr σ'=>r= .bool (decide (256<(l.length:Int)))/\σ'=[(b,.cells 24 [.lst 4 (l.map Wd.cs)])]:=by
 refine ag.w c228 ?_
 unfold s228 r228
 (repeat' (first|(with_reducible (first|refine ab (λh=>?_) (λh=>?_)|refine ai (λh=>?_) (λh=>?_)|refine aj (λh=>?_) (λh=>?_))<;>(try simp only[DZ]at h))|(with_reducible refine AI (by omega) ?_)|simp only[EVz,seval,↓reduceIte,EV6,EV7,length_map,D]|simp only[EVz,seval,↓reduceIte,EV6,EV7,length_map]|(with_reducible intro I F;(try(have E:=F;simp only[EVK]at E;first|(have D:=AI E D)|(have D:=E))))|(with_reducible first|refine ae ?_ ?_|refine af ?_)|(exfalso;omega)))
 all_goals exact RET.keep rfl (SubN.refl _)
include hG
set_option maxHeartbeats 4000000 in
theorem f135 (u:U) (hg:Good u) (i:Idd) (l:List Wd) (hl:l.length<1000000) (f:Value) (g:U->U) (σ:Store) (hD:iV G f g σ (fnd i u)):
  ag G Tryz.prog 135 [.agg u.cs,.agg i.cs,.lst 4 (l.map Wd.cs),.sc f] σ (λr σ'=>r=aO (wrT u i l g)/\σ'=σ):=by
 have hs:=hg.short
 have hU:=U.cs_eq u
 have M:=cj G i u hs
 have J:=λf1 f2 f3 f4=>wr_first u i l g f1 f2 f3 f4
 have c2:=λa b c=>f224 G hG a b c u hs l hl
 have c3:=λb=>f226 G b (hasP i u)
 have c4:=λb=>f227 G b (fnd i u)
 have c5:=λb=>f228 G b l
 have Y:=λhi=>f118 G f g σ i u hs hg.nd hi hD
 have V:=wr_ok (u:=u) (i:=i) (l:=l) (f:=g)
 have T:=wr_bad (u:=u) (i:=i) (l:=l) (f:=g)
 obtain⟨⟨v,e⟩,Z⟩:∃z,wrT u i l g=z:=⟨_,rfl⟩
 simp only[Z]at J
 rw[Z]at V T ⊢
 simp only at V T
 obtain⟨x,hx⟩:∃x,fnd i u=x:=⟨_,rfl⟩
 simp only[hx]at J c4
 rw[hx]at M
 unfold aO
 simp only[Idd.cs]at M Y
 by_cases h0:e=0
 ·subst h0
  obtain⟨hi,hv⟩:=V rfl
  subst hv
  have Y:=Y hi
  have O:=U.cs_len (U.wth i g u)
  simp only
  generalize (U.wth i g u).cs=ys at*
  have X:ys.take 8=ys:=take_of_length_le (by omega)
  rw[U.cs_eq x]at M c4
  rw[hU]at M c2 Y ⊢
  refine ag.w c135 ?_
  unfold s135 r135
  (repeat' (first|(with_reducible (first|refine ab (λh=>?_) (λh=>?_)|refine ai (λh=>?_) (λh=>?_)|refine aj (λh=>?_) (λh=>?_))<;>(try simp only[DZ]at h))|(with_reducible first|refine AI (by omega) ?_|refine aa M ?_)|simp only[EVz,seval,↓reduceIte,EV6,EV7,D]|simp only[EVz,seval,↓reduceIte,EV6,EV7]|(with_reducible intro N F;(try(have E:=F;simp only[EVK]at E;first|(have D:=AI E D)|(have D:=E))))|(with_reducible first|refine ae ?_ ?_|refine af ?_)|(refine⟨[[.sc _,.int .i64 _],[.sc _,.int .i64 _],[.sc _,.int .i64 _],[.sc _,.int .i64 _]],rfl,(by simp),rfl,?_⟩)|(exfalso;omega)))
  refine bG G (l:=[(_,(!stP u||l.any λw=>!bf w.text),1),(_,!hasP i u,4),(_,decide (x.kind=0),9),(_,decide (256<(l.length:Int)),6)]) rfl (by simp) (λy hy=>?_) ?_
  ·simp only[mem_cons,not_mem_nil,or_false]at hy
   rcases hy with rfl|rfl|rfl|rfl
   ·exact⟨_,(by refine⟨?_,λI=>?_⟩;(repeat(first|exact aM|(refine aD (by repeat(first|exact mem_cons_self|refine mem_cons_of_mem _ ?_)) ?_)));(simp only[Store.keys,map_cons,map_nil,nodup_cons,mem_cons,not_mem_nil,or_false,not_or,not_false_eq_true,true_and,nodup_nil,and_true,@eq_comm Nat]at I ⊢ <;>simp only[I,not_false_eq_true,and_self])),_,_,_,rfl,c2 _ _ _⟩
   ·exact⟨_,(by refine⟨?_,λI=>?_⟩;(repeat(first|exact aM|(refine aD (by repeat(first|exact mem_cons_self|refine mem_cons_of_mem _ ?_)) ?_)));(simp only[Store.keys,map_cons,map_nil,nodup_cons,mem_cons,not_mem_nil,or_false,not_or,not_false_eq_true,true_and,nodup_nil,and_true,@eq_comm Nat]at I ⊢ <;>simp only[I,not_false_eq_true,and_self])),_,_,_,rfl,c3 _⟩
   ·exact⟨_,(by refine⟨?_,λI=>?_⟩;(repeat(first|exact aM|(refine aD (by repeat(first|exact mem_cons_self|refine mem_cons_of_mem _ ?_)) ?_)));(simp only[Store.keys,map_cons,map_nil,nodup_cons,mem_cons,not_mem_nil,or_false,not_or,not_false_eq_true,true_and,nodup_nil,and_true,@eq_comm Nat]at I ⊢ <;>simp only[I,not_false_eq_true,and_self])),_,_,_,rfl,c4 _⟩
   ·exact⟨_,(by refine⟨?_,λI=>?_⟩;(repeat(first|exact aM|(refine aD (by repeat(first|exact mem_cons_self|refine mem_cons_of_mem _ ?_)) ?_)));(simp only[Store.keys,map_cons,map_nil,nodup_cons,mem_cons,not_mem_nil,or_false,not_or,not_false_eq_true,true_and,nodup_nil,and_true,@eq_comm Nat]at I ⊢ <;>simp only[I,not_false_eq_true,and_self])),_,_,_,rfl,c5 _⟩
  ·rw[J]
   (repeat' (first|(with_reducible (first|refine ab (λh=>?_) (λh=>?_)|refine ai (λh=>?_) (λh=>?_)|refine aj (λh=>?_) (λh=>?_))<;>(try simp only[DZ]at h))|(with_reducible refine AI (by omega) ?_)|simp only[EVz,seval,↓reduceIte,EV6,EV7,O,X,D]|simp only[EVz,seval,↓reduceIte,EV6,EV7,O,X]|(with_reducible intro N F;(try(have E:=F;simp only[EVK]at E;first|(have D:=AI E D)|(have D:=E))))|(with_reducible first|refine ae ?_ ?_|refine af ?_)|(refine ce Y.v (by repeat(first|exact SubN.refl _|refine SubN.tail ?_ _)) ?_)|(exfalso;omega)))
   all_goals exact RET.keep (by first|rfl|(simp[O,X];done)) (by repeat(first|exact SubN.refl _|refine SubN.tail ?_ _))
 ·have e1:decide (e≠0)=true:=decide_eq_true h0
  have hv:=T h0
  subst hv
  rw[U.cs_eq x]at M c4
  rw[hU]at M c2 ⊢
  refine ag.leRep (R1:=λσ'=>σ'=σ) ?_
  refine ag.w c135 ?_
  unfold s135 r135
  (repeat' (first|(with_reducible (first|refine ab (λh=>?_) (λh=>?_)|refine ai (λh=>?_) (λh=>?_)|refine aj (λh=>?_) (λh=>?_))<;>(try simp only[DZ]at h))|(with_reducible first|refine AI (by omega) ?_|refine aa M ?_)|simp only[EVz,seval,↓reduceIte,EV6,EV7,D]|simp only[EVz,seval,↓reduceIte,EV6,EV7]|(with_reducible intro N F;(try(have E:=F;simp only[EVK]at E;first|(have D:=AI E D)|(have D:=E))))|(with_reducible first|refine ae ?_ ?_|refine af ?_)|(refine⟨[[.sc _,.int .i64 _],[.sc _,.int .i64 _],[.sc _,.int .i64 _],[.sc _,.int .i64 _]],rfl,(by simp),rfl,?_⟩)|(exfalso;omega)))
  refine bG G (l:=[(_,(!stP u||l.any λw=>!bf w.text),1),(_,!hasP i u,4),(_,decide (x.kind=0),9),(_,decide (256<(l.length:Int)),6)]) rfl (by simp) (λy hy=>?_) ?_
  ·simp only[mem_cons,not_mem_nil,or_false]at hy
   rcases hy with rfl|rfl|rfl|rfl
   ·exact⟨_,(by refine⟨?_,λI=>?_⟩;(repeat(first|exact aM|(refine aD (by repeat(first|exact mem_cons_self|refine mem_cons_of_mem _ ?_)) ?_)));(simp only[Store.keys,map_cons,map_nil,nodup_cons,mem_cons,not_mem_nil,or_false,not_or,not_false_eq_true,true_and,nodup_nil,and_true,@eq_comm Nat]at I ⊢ <;>simp only[I,not_false_eq_true,and_self])),_,_,_,rfl,c2 _ _ _⟩
   ·exact⟨_,(by refine⟨?_,λI=>?_⟩;(repeat(first|exact aM|(refine aD (by repeat(first|exact mem_cons_self|refine mem_cons_of_mem _ ?_)) ?_)));(simp only[Store.keys,map_cons,map_nil,nodup_cons,mem_cons,not_mem_nil,or_false,not_or,not_false_eq_true,true_and,nodup_nil,and_true,@eq_comm Nat]at I ⊢ <;>simp only[I,not_false_eq_true,and_self])),_,_,_,rfl,c3 _⟩
   ·exact⟨_,(by refine⟨?_,λI=>?_⟩;(repeat(first|exact aM|(refine aD (by repeat(first|exact mem_cons_self|refine mem_cons_of_mem _ ?_)) ?_)));(simp only[Store.keys,map_cons,map_nil,nodup_cons,mem_cons,not_mem_nil,or_false,not_or,not_false_eq_true,true_and,nodup_nil,and_true,@eq_comm Nat]at I ⊢ <;>simp only[I,not_false_eq_true,and_self])),_,_,_,rfl,c4 _⟩
   ·exact⟨_,(by refine⟨?_,λI=>?_⟩;(repeat(first|exact aM|(refine aD (by repeat(first|exact mem_cons_self|refine mem_cons_of_mem _ ?_)) ?_)));(simp only[Store.keys,map_cons,map_nil,nodup_cons,mem_cons,not_mem_nil,or_false,not_or,not_false_eq_true,true_and,nodup_nil,and_true,@eq_comm Nat]at I ⊢ <;>simp only[I,not_false_eq_true,and_self])),_,_,_,rfl,c5 _⟩
  ·rw[J]
   (repeat' (first|(with_reducible (first|refine ab (λh=>?_) (λh=>?_)|refine ai (λh=>?_) (λh=>?_)|refine aj (λh=>?_) (λh=>?_))<;>(try simp only[DZ]at h))|(with_reducible refine AI (by omega) ?_)|simp only[EVz,seval,↓reduceIte,EV6,EV7,e1,D]|simp only[EVz,seval,↓reduceIte,EV6,EV7,e1]|(with_reducible intro N F;(try(have E:=F;simp only[EVK]at E;first|(have D:=AI E D)|(have D:=E))))|(with_reducible first|refine ae ?_ ?_|refine af ?_)|(exfalso;omega)))
   all_goals exact RET.mk' (σ':=σ) (by repeat(first|exact SubN.refl _|refine SubN.tail ?_ _)) ⟨dG e,rfl⟩
end
end Go.Av
