/-
  ENACT, M18: the units that an address means, by the program (2).
-/
import Derived.Test.YtjdccoplpljmlaaGreatDoorVXM15toXM17
import Derived.Test.YtjdccoplpljmlaaGreatDoorVXL35toXM9
namespace Go.Av
open Go Go.RowKit Go.Proofs List
set_option linter.unusedSimpArgs false
set_option linter.unusedVariables false
section
variable (G:Glob)
set_option maxHeartbeats 2000000 in
theorem f289 (u:U) (p:List Stp) (ht:u.Tame) (hN:u.flat.length<=1024) (hp:p.length<1000000):Pure G Tryz.prog 289 [.agg u.cs,.lst 2 (p.map Stp.cs)] (.lst 8 ((fI u p).map U.cs)):=by
 have hM:=f117 G p hp
 refine Pure.w c289 λR hR=>?_
 unfold s289 r289
 unfold fI at hR
 cases bw:dP p with
 |false=>
  rw[bw,if_pos rfl]at hR
  rw[bw]at hM
  (repeat' (first|(with_reducible (first|refine ab (λh=>?_) (λh=>?_)|refine ai (λh=>?_) (λh=>?_)|refine ak (λh=>?_) (λh=>?_))<;>(try simp only[DZ]at h))|(with_reducible first|refine AI (by omega) ?_|refine aa hM ?_)|simp only[EVz,seval,↓reduceIte,EV6,EV7,E]|simp only[EVz,seval,↓reduceIte,EV6,EV7]|(with_reducible intro J I;(try(have F:=I;simp only[EVK]at F;first|(have E:=AI F E)|(have E:=F))))|(with_reducible first|refine ae ?_ ?_|refine af ?_)|(exfalso;omega)))
  exact hR _ _ (Or.inl (Or.inr rfl))
 |true=>
  rw[bw]at hM hR
  simp only[Bool.true_eq_false,if_false]at hR
  by_cases h0:p=[]
  ·subst h0
   simp only[map_nil]at hM ⊢
   (repeat' (first|(with_reducible (first|refine ab (λh=>?_) (λh=>?_)|refine ai (λh=>?_) (λh=>?_)|refine ak (λh=>?_) (λh=>?_))<;>(try simp only[DZ]at h))|(with_reducible first|refine AI (by omega) ?_|refine aa hM ?_)|simp only[EVz,seval,↓reduceIte,EV6,EV7,E]|simp only[EVz,seval,↓reduceIte,EV6,EV7]|(with_reducible intro J I;(try(have F:=I;simp only[EVK]at F;first|(have E:=AI F E)|(have E:=F))))|(with_reducible first|refine ae ?_ ?_|refine af ?_)|(refine⟨[u.cs],rfl,(by simp[U.cs_len]),(by simp),?_⟩)|(exfalso;omega)))
   exact hR _ _ (Or.inl (Or.inr ⟨rfl,rfl⟩))
  ·obtain⟨s,r,Y⟩:∃s r,p=s::r:=by cases p<;>simp_all
   have d2:∀x σ,AVle x (.lst 8 ((r.foldl aJ (dQ u s)).map U.cs))->RET x σ R:=by
    rw[Y]at hR
    exact hR
   clear hR
   have ds:p.length=r.length+1:=by rw[Y];simp
   have ag:(p.map Stp.cs).getD 0 []=s.cs:=by rw[Y];rfl
   have e0:decide ((p.length:Int)=0)=false:=decide_eq_false (by omega)
   have X:List.drop 1 (List.take p.length (p.map Stp.cs))=r.map Stp.cs:=by rw[take_of_length_le (by simp),Y];rfl
   have e5:(r.map Stp.cs).length=r.length:=by simp
   have hB:=f174 G s.kind s.label
   have ch:u.flat.length*u.flat.length<=1048576:=Nat.mul_le_mul hN hN
   have cp:=kJ u s
   have bb:=fT (dQ u s)
   cases hb:mh s
   case' true=>
    have bn:(decide (s.kind=0)&&decide (s.label=[]))=true:=hb
    rw[bn]at hB
    have ac:dQ u s=[u]:=by unfold dQ;rw[hb];rfl
    (repeat' (first|(with_reducible (first|refine ab (λh=>?_) (λh=>?_)|refine ai (λh=>?_) (λh=>?_)|refine ak (λh=>?_) (λh=>?_))<;>(try simp only[DZ]at h))|(with_reducible first|refine AI (by omega) ?_|refine aa hM ?_|refine aa hB ?_)|simp only[EVz,seval,↓reduceIte,EV6,EV7,ag,e0,X,E]|simp only[EVz,seval,↓reduceIte,EV6,EV7,ag,e0,X]|(with_reducible intro J I;(try(have F:=I;simp only[EVK]at F;first|(have E:=AI F E)|(have E:=F))))|(with_reducible first|refine ae ?_ ?_|refine af ?_)|(refine⟨[u.cs],rfl,(by simp[U.cs_len]),(by simp),?_⟩)|(exfalso;omega)))
    rename_i b3 _ _ _ O _ _ _
    have bk:∀env,Weak G env [(J,.tok 29 8),(O,.cells 27 [.own (some J) 29 8 [u.cs]]),(b3,.cells 56 [.lst 2 (p.map Stp.cs)])] env [(O,.cells 27 [.lst 8 ((dQ u s).map U.cs)])]:=λenv=>
     Weak.trans (Weak.sub (SubN.tail (SubN.cons (SubN.nil _) _) _)) (Weak.st ⟨rfl,rfl,⟨.inr ⟨rfl,by rw[ac];rfl⟩,trivial⟩,trivial⟩)
    clear I F E
   case' false=>
    have bn:(decide (s.kind=0)&&decide (s.label=[]))=false:=hb
    rw[bn]at hB
    have ac:dQ u s=u.flat.filter λx=>aK x s:=by unfold dQ;rw[hb];rfl
    (repeat' (first|(with_reducible (first|refine ab (λh=>?_) (λh=>?_)|refine ai (λh=>?_) (λh=>?_)|refine ak (λh=>?_) (λh=>?_))<;>(try simp only[DZ]at h))|(with_reducible first|refine AI (by omega) ?_|refine aa hM ?_|refine aa hB ?_)|simp only[EVz,seval,↓reduceIte,EV6,EV7,ag,e0,X,E]|simp only[EVz,seval,↓reduceIte,EV6,EV7,ag,e0,X]|(with_reducible intro J I;(try(have F:=I;simp only[EVK]at F;first|(have E:=AI F E)|(have E:=F))))|(with_reducible first|refine ae ?_ ?_|refine af ?_)|(exfalso;omega)))
    rename_i b3 _ _ _
    generalize e4:J=O at*
    refine ay [(b3,_),(O,_)] [] (f340 G (.func (.func 341) #[] #[.pointer (some ⟨b3,0,none⟩),.pointer (some ⟨O,0,none⟩)]) u.flat.length (λpre σ=>St1 b3 O (s::r) s pre σ) ht.2 u ht (λx hx pre σ dl hp=>⟨_,#[],#[_,_],rfl,by simpa[AV.ofValue,AV.ofOne]using f341 G b3 O s r x pre (by have:=ht.2;omega) σ dl⟩) [] _ ⟨.nil,[],.inr ⟨rfl,rfl,rfl⟩,by rw[←Y];rfl⟩ (by simp)).v (aA.rfl' _) (SubN.perm (List.Perm.swap _ _ _)) ?_
    rintro r' σ' cl d0
    obtain⟨v,κ,ho,rfl⟩:=cl
    rw[nil_append]at ho
    rw[←Y]
    have q1:¬b3=O:=λe=>E.1 e.symm
    (repeat' (first|(with_reducible (first|refine ab (λh=>?_) (λh=>?_)|refine ai (λh=>?_) (λh=>?_)|refine ak (λh=>?_) (λh=>?_))<;>(try simp only[DZ]at h))|(with_reducible refine AI (by omega) ?_)|simp only[EVz,seval,↓reduceIte,EV6,EV7,X,q1,E]|simp only[EVz,seval,↓reduceIte,EV6,EV7,X,q1]|(with_reducible intro J I;(try(have F:=I;simp only[EVK]at F;first|(have E:=AI F E)|(have E:=F))))|(with_reducible first|refine ae ?_ ?_|refine af ?_)|(exfalso;omega)))
    have bk:∀env,Weak G env ((b3,.cells 56 [.lst 2 (p.map Stp.cs)])::(O,.cells 27 [v])::κ) env [(O,.cells 27 [.lst 8 ((dQ u s).map U.cs)])]:=λenv=>by
     rw[ac]
     rcases ho with ho|⟨ho,rfl,rfl⟩
     ·exact Weak.frz (cs:=[v]) (rest:=[]) (κ:=κ) ⟨.inr ⟨29,8,_,κ,ho,λq M=>M,rfl⟩,trivial⟩ (SubN.tail (SubN.refl _) _)
     ·rw[ho]
      exact Weak.trans (Weak.sub (SubN.tail (SubN.refl _) _)) (Weak.st ⟨rfl,rfl,⟨.inr rfl,trivial⟩,trivial⟩)
    clear d0 E I F
   all_goals
    refine ax (ι:=List U) r (λi rr l=>r.foldl aJ (dQ u s)=rr.foldl aJ l/\msr l<=1048576) (λi l=>[(5,.sc (.pointer (some ⟨O,0,none⟩))),(33,.lst 2 (r.map Stp.cs)),(34,.int .i64 r.length),(35,.int .i64 i)]) (λi l=>[(O,.cells 27 [.lst 8 (l.map U.cs)])]) (dQ u s) ⟨rfl,by omega⟩ (bk _) (by omega) (λi y rr l T hx hw=>?_) (λl T hn=>?_)
    ·have cw:=fT l
     clear bk
     (repeat' (first|(with_reducible (first|refine ab (λh=>?_) (λh=>?_)|refine ai (λh=>?_) (λh=>?_)|refine ak (λh=>?_) (λh=>?_))<;>(try simp only[DZ]at h))|(with_reducible refine AI (by omega) ?_)|simp only[EVz,seval,↓reduceIte,EV6,EV7,hx.yes,hx.le0,hx.lt',hx.row,hw,hx.get,E]|simp only[EVz,seval,↓reduceIte,EV6,EV7,hx.yes,hx.le0,hx.lt',hx.row,hw,hx.get]|(with_reducible intro J I;(try(have F:=I;simp only[EVK]at F;first|(have E:=AI F E)|(have E:=F))))|(with_reducible first|refine ae ?_ ?_|refine af ?_)|(exfalso;omega)))
     have q1:¬J=O:=F
     have q2:¬O=J:=λe=>q1 e.symm
     generalize e3:J=b7 at*
     clear E I F
     obtain⟨κ,N⟩:∃κ:Store,κ=[(b7,.cells 128 [.int .i64 y.kind,.str y.label]),(O,.cells 27 [.lst 8 (l.map U.cs)])]:=⟨_,rfl⟩
     have bp:(Store.keys κ).Nodup:=by rw[N];simp[Store.keys,q1]
     refine ax (ι:=Option Nat) l (λj rl c=>∀b,c=some b->b∉Store.keys κ) (λj c=>[(5,.sc (.pointer (some ⟨O,0,none⟩))),(7,.sc (.pointer (some ⟨b7,0,none⟩))),(8,.own c 29 8 ((aJ (l.take j) y).map U.cs)),(33,.lst 2 (r.map Stp.cs)),(34,.int .i64 r.length),(35,.int .i64 i),(39,.lst 8 (l.map U.cs)),(40,.int .i64 l.length),(41,.int .i64 j)]) (λj c=>κ++tokS c 29 ((aJ (l.take j) y).length*8)) none (by intro b h;cases h) (Weak.of (by simp[dI,Env.get,AVle,aU,aJ]) (by rw[N];exact SubN.refl _)) (by omega) (λj z rl c bd Z bx=>?_) (λc bd d1=>?_)
     ·have al:aJ (l.take (j+1)) y=aJ (l.take j) y++z.kids.filter λk=>aK k y:=by rw[Z.take,la]
      have ah:(aJ (l.take (j+1)) y).length<=1048576:=by
       have h1:=fT (aJ (l.take (j+1)) y)
       have h2:=iF y (l.take (j+1))
       have h3:msr l=msr (l.take (j+1))+msr (l.drop (j+1)):=by rw[←jE,take_append_drop]
       omega
      have aw:z.kids.length<=1048576:=by
       have h1:=fT z.kids
       have h2:=iZ z.kids
       have h3:z.flat.length=1+(U.flats z.kids).length:=by rw[U.flat_eq,length_cons];omega
       have h4:msr l=msr (l.take (j+1))+msr (l.drop (j+1)):=by rw[←jE,take_append_drop]
       have h5:msr (l.take (j+1))=msr (l.take j)+z.flat.length:=by rw[Z.take,jE,cK,mc];omega
       omega
      rw[al,length_append]at ah
      rw[N]
      (repeat' (first|(with_reducible (first|refine ab (λh=>?_) (λh=>?_)|refine ai (λh=>?_) (λh=>?_)|refine ak (λh=>?_) (λh=>?_))<;>(try simp only[DZ]at h))|(with_reducible refine AI (by omega) ?_)|simp only[EVz,seval,↓reduceIte,EV6,EV7,Z.yes,Z.le0,Z.lt',Z.row,bx,Z.get,q1,q2,E]|simp only[EVz,seval,↓reduceIte,EV6,EV7,Z.yes,Z.le0,Z.lt',Z.row,bx,Z.get,q1,q2]|(with_reducible intro J I;(try(have F:=I;simp only[EVK]at F;first|(have E:=AI F E)|(have E:=F))))|(with_reducible first|refine ae ?_ ?_|refine af ?_)|(exfalso;omega)))
      have ad:=zPre_zero l y z.kids j
      have bm:zPre l y z.kids j z.kids.length=aJ (l.take (j+1)) y:=by rw[al,zPre_full]
      refine ax (ι:=Option Nat) z.kids (λk rk c=>∀b,c=some b->b∉Store.keys κ) (λk c=>[(5,.sc (.pointer (some ⟨O,0,none⟩))),(7,.sc (.pointer (some ⟨b7,0,none⟩))),(8,.own c 29 8 ((zPre l y z.kids j k).map U.cs)),(33,.lst 2 (r.map Stp.cs)),(34,.int .i64 r.length),(35,.int .i64 i),(39,.lst 8 (l.map U.cs)),(40,.int .i64 l.length),(41,.int .i64 j),(46,.lst 8 (z.kids.map U.cs)),(47,.int .i64 z.kids.length),(48,.int .i64 k)]) (λk c=>κ++tokS c 29 ((zPre l y z.kids j k).length*8)) c bd (Weak.of (by simp[dI,Env.get,AVle,aU,ad]) (by rw[N];simp only[ad];exact SubN.tail (SubN.refl _) _)) (Nat.lt_of_le_of_lt aw (by decide)) (λk q rk c V M an=>?_) (λc V dd=>?_)
      ·have hA:=f342 G q y
       have bo:((z.kids.take k).filter λk=>aK k y).length<=k:=Nat.le_trans (length_filter_le _ _) (by rw[length_take];omega)
       have dc:=M.lt
       have be:(aJ (l.take j) y).length<=1048576:=Nat.le_trans (Nat.le_add_right _ _) ah
       have bh:((z.kids.take k).filter λk=>aK k y).length<=1048576:=Nat.le_trans bo (Nat.le_trans (Nat.le_of_lt dc) aw)
       have e2:(zPre l y z.kids j k).length<=2097152:=by
        rw[zPre_len]
        exact Nat.add_le_add be bh
       have d3:aK q y=true\/aK q y=false:=by
        cases aK q y
        ·exact .inr rfl
        ·exact .inl rfl
       rcases d3 with hc|hc
       ·have ef:zPre l y z.kids j (k+1)=zPre l y z.kids j k++[q]:=zPre_yes M hc
        rw[hc]at hA
        clear cp bb ch ah aw al cw ad bm hN bo hp ac be bh
        rw[N]
        (repeat' (first|(with_reducible (first|refine ab (λh=>?_) (λh=>?_)|refine ai (λh=>?_) (λh=>?_)|refine ak (λh=>?_) (λh=>?_))<;>(try simp only[DZ]at h))|(with_reducible first|refine AI (by omega) ?_|refine aa hA ?_)|simp only[EVz,seval,↓reduceIte,EV6,EV7,M.yes,M.le0,M.lt',M.row,an,M.get,q1,q2,E]|simp only[EVz,seval,↓reduceIte,EV6,EV7,M.yes,M.le0,M.lt',M.row,an,M.get,q1,q2]|(with_reducible intro J I;(try(have F:=I;simp only[EVK]at F;first|(have E:=AI F E)|(have E:=F))))|(with_reducible first|refine ae ?_ ?_|refine af ?_)|(exfalso;omega)))
        rename_i e1 cm _ _
        refine⟨[q.cs],rfl,by simp[U.cs_len],by simp,?_⟩
        refine app_kept2 (sz:=8) (bytes:=120) (rows:=(zPre l y z.kids j k).map U.cs) (ys:=[q.cs]) (m:=(zPre l y z.kids j k).length*8) [(b7,.cells 128 [.int .i64 y.kind,.str y.label]),(O,.cells 27 [.lst 8 (l.map U.cs)])] cm I (N ▸ V) (by rw[length_map]) (N ▸ bp) (by rw[length_map];simp;omega) (λgn d4=>?_)
        refine am M gn d4 ?_
        rw[ef,map_append,length_append]
        simp only[length_map,map_cons,map_nil,length_append,length_cons,length_nil]
        exact Weak.rfl' _ _
       ·have ef:zPre l y z.kids j (k+1)=zPre l y z.kids j k:=zPre_not M hc
        rw[hc]at hA
        clear cp bb ch ah aw al cw ad bm hN bo hp ac be bh
        rw[N]
        (repeat' (first|(with_reducible (first|refine ab (λh=>?_) (λh=>?_)|refine ai (λh=>?_) (λh=>?_)|refine ak (λh=>?_) (λh=>?_))<;>(try simp only[DZ]at h))|(with_reducible first|refine AI (by omega) ?_|refine aa hA ?_)|simp only[EVz,seval,↓reduceIte,EV6,EV7,M.yes,M.le0,M.lt',M.row,an,M.get,q1,q2,E]|simp only[EVz,seval,↓reduceIte,EV6,EV7,M.yes,M.le0,M.lt',M.row,an,M.get,q1,q2]|(with_reducible intro J I;(try(have F:=I;simp only[EVK]at F;first|(have E:=AI F E)|(have E:=F))))|(with_reducible first|refine ae ?_ ?_|refine af ?_)|(exfalso;omega)))
        refine am M c (N ▸ V) ?_
        rw[ef]
        exact Weak.sub (SubN.tail (SubN.refl _) _)
      ·(try simp only[EVz,seval,↓reduceIte,EV6,EV7,dd,bx])
       refine am Z c (N ▸ V) ?_
       rw[bm,N]
       exact Weak.rfl' _ _
     ·rw[N]
      (repeat' (first|(with_reducible (first|refine ab (λh=>?_) (λh=>?_)|refine ai (λh=>?_) (λh=>?_)|refine ak (λh=>?_) (λh=>?_))<;>(try simp only[DZ]at h))|(with_reducible refine AI (by omega) ?_)|simp only[EVz,seval,↓reduceIte,EV6,EV7,d1,hw,q1,q2,E]|simp only[EVz,seval,↓reduceIte,EV6,EV7,d1,hw,q1,q2]|(with_reducible intro J I;(try(have F:=I;simp only[EVK]at F;first|(have E:=AI F E)|(have E:=F))))|(with_reducible first|refine ae ?_ ?_|refine af ?_)|(exfalso;omega)))
      refine am hx (aJ l y) ⟨T.1,Nat.le_trans (iF y l) T.2⟩ ?_
      rw[take_length]
      refine Weak.trans (Weak.sub (σ':=[(O,.cells 27 [.own c 29 8 ((aJ l y).map U.cs)])]) (SubN.tail (SubN.cons (SubN.nil _) _) _)) (Weak.st ⟨rfl,rfl,⟨.inr ⟨rfl,rfl⟩,trivial⟩,trivial⟩)
    ·(repeat' (first|(with_reducible (first|refine ab (λh=>?_) (λh=>?_)|refine ai (λh=>?_) (λh=>?_)|refine ak (λh=>?_) (λh=>?_))<;>(try simp only[DZ]at h))|(with_reducible refine AI (by omega) ?_)|simp only[EVz,seval,↓reduceIte,EV6,EV7,hn,E]|simp only[EVz,seval,↓reduceIte,EV6,EV7,hn]|(with_reducible intro J I;(try(have F:=I;simp only[EVK]at F;first|(have E:=AI F E)|(have E:=F))))|(with_reducible first|refine ae ?_ ?_|refine af ?_)|(exfalso;omega)))
     exact d2 _ _ (Or.inl (Or.inl (by rw[T.1];rfl)))
theorem f237 (u:U) (p:List Stp) (ht:u.Tame) (O:u.flat.length<=1024) (hp:p.length<1000000):Pure G Tryz.prog 237 [.agg u.cs,.lst 2 (p.map Stp.cs)] (.lst 3 (((fI u p).map U.id).map Idd.cs)):=by
 have Y:=f289 G u p ht O hp
 have T:=lx u p
 have N:u.flat.length*u.flat.length<=1048576:=Nat.mul_le_mul O O
 obtain⟨l,V⟩:∃l,fI u p=l:=⟨_,rfl⟩
 rw[V]at Y T ⊢
 refine Pure.w c237 λR hR=>?_
 unfold s237 r237
 have ac:l.length<=1048576:=Nat.le_trans T N
 clear T N O
 (repeat' (first|(with_reducible (first|refine ab (λh=>?_) (λh=>?_)|refine ai (λh=>?_) (λh=>?_)|refine ak (λh=>?_) (λh=>?_))<;>(try simp only[DZ]at h))|(with_reducible first|refine AI (by omega) ?_|refine aa Y ?_)|simp only[EVz,seval,↓reduceIte,EV6,EV7,E]|simp only[EVz,seval,↓reduceIte,EV6,EV7]|(with_reducible intro M I;(try(have F:=I;simp only[EVK]at F;first|(have E:=AI F E)|(have E:=F))))|(with_reducible first|refine ae ?_ ?_|refine af ?_)|(exfalso;omega)))
 refine ax (ι:=Option Nat) l (λi r c=>True) (λi c=>[(5,.own c 25 3 ((l.take i).map λx=>x.id.cs)),(10,.lst 8 (l.map U.cs)),(11,.int .i64 l.length),(12,.int .i64 i)]) (λi c=>tokS c 25 (i*3)) none trivial (Weak.of (by simp[dI,Env.get,AVle,aU]) (SubN.refl _)) (by omega) (λi x r c X J hw=>?_) (λc X Z=>?_)
 ·have hi:=J.lt
  (repeat' (first|(with_reducible (first|refine ab (λh=>?_) (λh=>?_)|refine ai (λh=>?_) (λh=>?_)|refine ak (λh=>?_) (λh=>?_))<;>(try simp only[DZ]at h))|(with_reducible refine AI (by omega) ?_)|simp only[EVz,seval,↓reduceIte,EV6,EV7,J.yes,J.le0,J.lt',J.row,hw,J.get,E]|simp only[EVz,seval,↓reduceIte,EV6,EV7,J.yes,J.le0,J.lt',J.row,hw,J.get]|(with_reducible intro M I;(try(have F:=I;simp only[EVK]at F;first|(have E:=AI F E)|(have E:=F))))|(with_reducible first|refine ae ?_ ?_|refine af ?_)|(exfalso;omega)))
  refine gk (n:=i) (m':=(i+1)*3) (by first|exact io|exact dh (by assumption)|exact gH (by assumption) (by assumption)) (by rw[length_map,length_take];omega) rfl rfl rfl (by assumption) (by omega) (λgn=>?_)
  refine am J gn trivial ?_
  simp only[J.take,map_append,map_cons,map_nil]
  exact Weak.rfl' _ _
 ·(repeat' (first|(with_reducible (first|refine ab (λh=>?_) (λh=>?_)|refine ai (λh=>?_) (λh=>?_)|refine ak (λh=>?_) (λh=>?_))<;>(try simp only[DZ]at h))|(with_reducible refine AI (by omega) ?_)|simp only[EVz,seval,↓reduceIte,EV6,EV7,Z,E]|simp only[EVz,seval,↓reduceIte,EV6,EV7,Z]|(with_reducible intro M I;(try(have F:=I;simp only[EVK]at F;first|(have E:=AI F E)|(have E:=F))))|(with_reducible first|refine ae ?_ ?_|refine af ?_)|(exfalso;omega)))
  exact hR _ _ (Or.inl (Or.inr ⟨rfl,by rw[take_length,map_map];rfl⟩))
theorem f185 (u:U) (p:List Stp) (V:u.Tame) (O:u.flat.length<=1024) (T:p.length<1000000):Pure G Tryz.prog 185 [.agg u.cs,.lst 2 (p.map Stp.cs)] (oneAV u p):=by
 have M:=f237 G u p V O T
 refine Pure.w c185 λR J=>?_
 unfold s185 r185
 unfold oneAV one at J
 have X:(fI u p).length<=1048576:=Nat.le_trans (lx u p) (Nat.mul_le_mul O O)
 generalize fI u p=l at*
 rcases l with _|⟨x,_|⟨y,l⟩⟩
 ·simp only[map_nil]at M J
  (repeat' (first|(with_reducible (first|refine ab (λh=>?_) (λh=>?_)|refine ai (λh=>?_) (λh=>?_)|refine ak (λh=>?_) (λh=>?_))<;>(try simp only[DZ]at h))|(with_reducible first|refine AI (by omega) ?_|refine aa M ?_)|simp only[EVz,seval,↓reduceIte,EV6,EV7,E]|simp only[EVz,seval,↓reduceIte,EV6,EV7]|(with_reducible intro N I;(try(have F:=I;simp only[EVK]at F;first|(have E:=AI F E)|(have E:=F))))|(with_reducible first|refine ae ?_ ?_|refine af ?_)|(exfalso;omega)))
  all_goals exact J _ _ (Or.inl (Or.inl rfl))
 ·simp only[map_cons,map_nil,Idd.cs]at M J
  (repeat' (first|(with_reducible (first|refine ab (λh=>?_) (λh=>?_)|refine ai (λh=>?_) (λh=>?_)|refine ak (λh=>?_) (λh=>?_))<;>(try simp only[DZ]at h))|(with_reducible first|refine AI (by omega) ?_|refine aa M ?_)|simp only[EVz,seval,↓reduceIte,EV6,EV7,E]|simp only[EVz,seval,↓reduceIte,EV6,EV7]|(with_reducible intro N I;(try(have F:=I;simp only[EVK]at F;first|(have E:=AI F E)|(have E:=F))))|(with_reducible first|refine ae ?_ ?_|refine af ?_)|(exfalso;omega)))
  all_goals first|exact J _ _ (Or.inl (Or.inl rfl))|(exfalso;omega)
 ·simp only[map_cons,Idd.cs]at M J
  (repeat' (first|(with_reducible (first|refine ab (λh=>?_) (λh=>?_)|refine ai (λh=>?_) (λh=>?_)|refine ak (λh=>?_) (λh=>?_))<;>(try simp only[DZ]at h))|(with_reducible first|refine AI (by omega) ?_|refine aa M ?_)|simp only[EVz,seval,↓reduceIte,EV6,EV7,E]|simp only[EVz,seval,↓reduceIte,EV6,EV7]|(with_reducible intro N I;(try(have F:=I;simp only[EVK]at F;first|(have E:=AI F E)|(have E:=F))))|(with_reducible first|refine ae ?_ ?_|refine af ?_)|(exfalso;omega)))
  all_goals first|exact J _ _ (Or.inl (Or.inl rfl))|(exfalso;omega)
end
section
variable (G:Glob)
end
section
variable (G:Glob)
def OwnW (l:List Wd) (r:AV) (σ:Store):Prop:=∃g,r= .own g 88 4 (l.map Wd.cs)/\σ=tokS g 88 (l.length*4)
end
theorem gL {n len:Nat} (E:1<=len):∀{ps:List Nat} {s:Nat},s<=n->Gaps n len s ps->s+ps.length<=n
 |[],s,h,_=>by simpa using h
 |p::ps,s,h,⟨h1,h2,h3⟩=>by
  have:=gL E h2 h3
  rw[length_cons];omega
def iO (q:List Wd×Int):AV:=.tup [.lst 4 (q.1.map Wd.cs),.int .i64 q.2]
section
variable (G:Glob)
end
section
variable (G:Glob)
theorem f284o (l:List (List UInt8)) (a b m:Int) (Y:l.length<1000000) (O:0<=m) (Z:m<1000000000000):aj G Tryz.prog 284 [.lst 1 (l.map srow),.int .i64 a,.int .i64 b,.int .i64 m] [] (OwnW (aW a b l m)):=by
 refine aj.w c284 ?_
 unfold s284 r284
 (repeat' (first|simp only[EVz,seval,↓reduceIte,EV6,EV7,E.yes,E.le0,E.lt',E.get,E.row,X,av (x:=m+(i:Int)) (by omega) (by have:=E.lt;omega)]|simp only[EVz,seval,↓reduceIte,EV6,EV7,T]|simp only[EVz,seval,↓reduceIte,EV6,EV7]|(with_reducible intro M F;(try(have I:=F;simp only[EVK]at I;(have V:=I))))|(refine ax (ι:=Option Nat) l (λi r c=>True) (λi c=>[(1,.int .i64 a),(2,.int .i64 b),(3,.int .i64 m),(9,.own c 88 4 ((aW a b (l.take i) m).map Wd.cs)),(12,.lst 1 (l.map srow)),(13,.int .i64 l.length),(14,.int .i64 i)]) (λi c=>tokS c 88 (i*4)) none trivial (Weak.of (by simp[dI,Env.get,AVle,aU,aW]) (SubN.refl _)) (by omega) (λi x r c J E X=>?_) (λc J T=>?_))))
 ·have hi:=E.lt
  refine gk (n:=i) (m':=(i+1)*4) io (by rw[length_map,cF,length_take];omega) rfl rfl rfl (by assumption) (by omega) (λN=>?_)
  refine am E N trivial ?_
  rw[oW a b l m E,map_append]
  exact Weak.rfl' _ _
 ·rw[take_length]
  exact RET.mk (SubN.refl _) ⟨c,rfl,by rw[cF]⟩
theorem f284 (l:List (List UInt8)) (a b m:Int) (F:l.length<1000000) (E:0<=m) (I:m<1000000000000):Pure G Tryz.prog 284 [.lst 1 (l.map srow),.int .i64 a,.int .i64 b,.int .i64 m] (.lst 4 ((aW a b l m).map Wd.cs)):=
 aj.toPure (f284o G l a b m F E I) (by rintro r σ' ⟨g,rfl,rfl⟩;exact LeRep.of (.inl (.inr ⟨rfl,rfl⟩)))
theorem f366 (l:List Wd) (Y:l.length<1000000):Pure G Tryz.prog 366 [.lst 4 (l.map Wd.cs)] (.lst 1 ((l.map Wd.text).map srow)):=by
 refine Pure.w c366 λR O=>?_
 unfold s366 r366
 (repeat' (simp only[EVz,seval,↓reduceIte,EV6,EV7]))
 refine ax (ι:=Option Nat) l (λi r c=>True) (λi c=>[(3,.own c 9 1 ((l.take i).map λw=>srow w.text)),(6,.lst 4 (l.map Wd.cs)),(7,.int .i64 l.length),(8,.int .i64 i)]) (λi c=>tokS c 9 (i*1)) none trivial (Weak.of (by simp[dI,Env.get,AVle,aU]) (SubN.refl _)) (by omega) (λi x r c J E X=>?_) (λc J T=>?_)
 ·have hi:=E.lt
  (repeat' (first|simp only[EVz,seval,↓reduceIte,EV6,EV7,E.yes,E.le0,E.lt',E.row,X,E.get]|(with_reducible intro M F;(try(have I:=F;simp only[EVK]at I;(have V:=I))))))
  refine gk (n:=i) (m':=(i+1)*1) (dh (by assumption)) (by rw[length_map,length_take];omega) rfl rfl rfl (by assumption) (by omega) (λN=>?_)
  refine am E N trivial ?_
  simp only[E.take,map_append,map_cons,map_nil,srow]
  exact Weak.rfl' _ _
 ·(repeat' (simp only[EVz,seval,↓reduceIte,EV6,EV7,T]))
  exact O _ _ (Or.inl (Or.inr ⟨rfl,by rw[take_length,map_map];rfl⟩))
theorem f148 (w row:List (List UInt8)) (hw:w.length<1000000) (hr:row.length<1000000) (O:row≠[]):Pure G Tryz.prog 148 [.lst 1 (w.map srow),.lst 1 (row.map srow)] (.lst 1 ((occL row 0 0 w).map λn:Nat=>[AV.int .i64 (n:Int)])):=by
 have ac:1<=row.length:=by cases row<;>simp_all
 have Y:decide ((row.length:Int)=0)=false:=decide_eq_false (by omega)
 refine Pure.w c148 λR hR=>?_
 unfold s148 r148
 (repeat' (simp only[EVz,seval,↓reduceIte,EV6,EV7,Y]))
 refine bv (ι:=Nat×List Nat×Option Nat) (λp=>p.1<=w.length/\p.2.1.length<=p.1/\occL row 0 0 w=p.2.1++occL row 0 p.1 (w.drop p.1)) (λp=>w.length+1-p.1) (λp=>[(0,.lst 1 (w.map srow)),(1,.lst 1 (row.map srow)),(5,.own p.2.2 3 1 (p.2.1.map λn:Nat=>[AV.int .i64 (n:Int)])),(6,.int .i64 p.1)]) (λp=>tokS p.2.2 3 (p.2.1.length*1)) (0,[],none) ⟨by omega,by simp,by simp⟩ (Weak.of (by simp[dI,Env.get,AVle,aU]) (SubN.refl _)) ?_
 rintro⟨i,l,c⟩ ⟨h1,h2,E⟩
 simp only at h1 h2 E ⊢
 have w2:IntKind.i64.wrap ((i:Int)+(row.length:Int))=((i+row.length:Nat):Int):=by rw[av (by omega) (by omega)];omega
 by_cases hi:i+row.length<=w.length
 ·have M:decide (((i+row.length:Nat):Int)<=(w.length:Int))=true:=decide_eq_true (by omega)
  have T:IntKind.i64.wrap ((i:Int)+1)=((i+1:Nat):Int):=jA (by omega)
  have N:=f88 G ((w.drop i).take row.length) row (by rw[length_take];omega)
  have J:List.drop i (List.take (i+row.length) (w.map srow))=((w.drop i).take row.length).map srow:=by rw[drop_take,map_take,map_drop];congr 1;omega
  rcases Classical.em ((w.drop i).take row.length=row)with hm|hm
  ·rw[decide_eq_true hm]at N
   rw[occL_hit O hm,drop_drop]at E
   (repeat' (first|(with_reducible first|refine AI (by omega) ?_|refine aa N ?_)|simp only[EVz,seval,↓reduceIte,EV6,EV7,M,T,w2,J]|(with_reducible intro V F;(try(have I:=F;simp only[EVK]at I;(have ad:=I))))|(refine⟨[[AV.int .i64 (i:Int)]],rfl,(by simp),(by simp),?_⟩)|(refine app_lst (by((simp only[length_map]<;>exact dh (by assumption)))) rfl rfl (by simp<;>omega) (λZ=>?_))))
   refine⟨(i+row.length,l++[i],Z),⟨by simp only;omega,by simp only[length_append,length_cons,length_nil];omega,by simp only[append_assoc,cons_append,nil_append];exact E⟩,by simp only;omega,?_⟩
   simp only[map_append,map_cons,map_nil,length_append,length_map,length_cons,length_nil]
   exact Weak.rfl' _ _
  ·rw[decide_eq_false hm]at N
   rw[occL_miss hm,drop_drop]at E
   (repeat' (first|(with_reducible first|refine AI (by omega) ?_|refine aa N ?_)|simp only[EVz,seval,↓reduceIte,EV6,EV7,M,T,w2,J]))
   exact⟨(i+1,l,c),⟨by simp only;omega,by simp only;omega,E⟩,by simp only;omega,Weak.rfl' _ _⟩
 ·have M:decide (((i+row.length:Nat):Int)<=(w.length:Int))=false:=decide_eq_false (by omega)
  have X:occL row 0 i (w.drop i)=[]:=kL (by rw[length_drop];omega)
  rw[X,append_nil]at E
  (repeat' (simp only[EVz,seval,↓reduceIte,EV6,EV7,M,w2]))
  exact hR _ _ (Or.inl (Or.inr ⟨rfl,by rw[E]⟩))
end
def prow (n:Nat):List AV:=[.int .i64 n]
section
variable (G:Glob)
theorem f335 (w:List Wd) (row:List (List UInt8)) (nth:Int) (Y:w.length<1000000) (hr:row.length<1000000) (X:row≠[]) (hn:0<=nth) (ac:nth<=1000000):Pure G Tryz.prog 335 [.lst 4 (w.map Wd.cs),.lst 1 (row.map srow),.int .i64 nth] (.lst 1 ((cB (occs w row) nth).map λn:Nat=>[AV.int .i64 (n:Int)])):=by
 have N:=f366 G w Y
 have F:=f148 G (w.map Wd.text) row (by rw[length_map];exact Y) hr X
 have T:occL row 0 0 (w.map Wd.text)=occs w row:=rfl
 rw[T]at F
 refine Pure.w c335 λR E=>?_
 unfold s335 r335
 obtain⟨ps,V⟩:∃ps,occs w row=ps:=⟨_,rfl⟩
 rw[V]at E F
 unfold cB at E
 rcases Classical.em (nth=0)with h0|h0
 ·have I:decide (nth=0)=true:=decide_eq_true h0
  rw[if_pos h0]at E
  (repeat' (first|(with_reducible first|refine aa N ?_|refine aa F ?_)|simp only[EVz,seval,↓reduceIte,EV6,EV7,I]))
  exact E _ _ (Or.inl (Or.inl rfl))
 ·have I:decide (nth=0)=false:=decide_eq_false h0
  have w1:IntKind.i64.wrap (nth-1)=nth-1:=av (by omega) (by omega)
  rw[if_neg h0]at E
  rcases Classical.em ((ps.length:Int)<nth)with h1|h1
  ·have M:decide ((ps.length:Int)<nth)=true:=decide_eq_true h1
   have J:ps[(nth-1).toNat]? =none:=getElem?_eq_none (by omega)
   rw[J]at E
   (repeat' (first|(with_reducible first|refine aa N ?_|refine aa F ?_)|simp only[EVz,seval,↓reduceIte,EV6,EV7,I,M]))
   exact E _ _ (Or.inl (Or.inr rfl))
  ·have M:decide ((ps.length:Int)<nth)=false:=decide_eq_false h1
   have O:(nth-1).toNat<ps.length:=by omega
   have J:ps[(nth-1).toNat]? =some ps[(nth-1).toNat]:=getElem?_eq_getElem O
   rw[J]at E
   have Z:List.drop (nth-1).toNat (List.take nth.toNat (ps.map λn:Nat=>[AV.int .i64 (n:Int)]))=[[AV.int .i64 ((ps[(nth-1).toNat]:Nat):Int)]]:=by
    rw[show nth.toNat=(nth-1).toNat+1 by omega,take_add_one,getElem?_map,J,drop_append_of_le_length (by simp;omega),drop_eq_nil_of_le (by simp;omega)]
    rfl
   (repeat' (first|(with_reducible first|refine AI (by omega) ?_|refine aa N ?_|refine aa F ?_)|simp only[EVz,seval,↓reduceIte,EV6,EV7,I,M,w1,Z]))
   exact E _ _ (Or.inl (Or.inl rfl))
abbrev stp4 (a b n m:Int):List AV:=[.int .i64 a,.int .i64 b,.int .i64 n,.int .i64 m]
set_option maxHeartbeats 1000000 in
theorem f364 (bs:Nat) (l:List Wd) (a b n m:Int) (I:l.length<1000000) (E:0<=m) (N:m<1000000000000):
  aj G Tryz.prog 364 [.sc (.pointer (some ⟨bs,0,none⟩)),.lst 4 (l.map Wd.cs)] [(bs,.cells 346 (stp4 a b n m))] λr σ'=>r= .lst 4 ((aW a b (l.map Wd.text) m).map Wd.cs)/\σ'=[(bs,.cells 346 (stp4 a b n (m+l.length)))]:=by
 have M:=f366 G l I
 have J:=f284 G (l.map Wd.text) a b m (by rw[length_map];exact I) E N
 have F:(aW a b (l.map Wd.text) m).length=l.length:=by rw[cF,length_map]
 have O:IntKind.i64.wrap (m+(l.length:Int))=m+l.length:=av (by omega) (by omega)
 refine aj.w c364 ?_
 unfold s364 r364 stp4
 (repeat' (first|(with_reducible first|refine aa M ?_|refine aa J ?_)|simp only[EVz,seval,↓reduceIte,EV6,EV7,F,O]|(with_reducible first|refine ae ?_ ?_|refine af ?_)))
 all_goals exact RET.mk (SubN.refl _) ⟨rfl,rfl⟩
end
section
variable (G:Glob)
end
end Go.Av
