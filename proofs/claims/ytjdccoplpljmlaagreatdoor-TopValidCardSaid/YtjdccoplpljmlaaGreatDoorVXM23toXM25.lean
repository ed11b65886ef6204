/-
  ENACT, M23: the position that an address and a Where denote, and where a unit goes.
-/
import Derived.Test.YtjdccoplpljmlaaGreatDoorVXM16toXM22
import Derived.Test.YtjdccoplpljmlaaGreatDoorVXY15toXAv36
namespace Go.Av
open Go Go.RowKit Go.Proofs List
set_option linter.unusedSimpArgs false
set_option linter.unusedVariables false
def insPt (u:U) (p:List Stp) (wh:Int):(Idd×Nat) ⊕ Int:=
 if (one u p).2≠0 then .inr (one u p).2 else match spot u (one u p).1 wh with|none=>.inr 9|some q=>.inl q
section
variable (G:Glob)
set_option maxHeartbeats 4000000 in
theorem f322 (u:U) (p:List Stp) (wh:Int) (hs:u.Short) (hN:u.flat.length<=1024) (hn:u.ids.Nodup) (hk:∀i q,aM i u=some q->q.2.2<1000000) (hp:p.length<1000000) (Z:0<=wh) (h3:wh<=3):
  Pure G Tryz.prog 322 [.agg u.cs,.lst 2 (p.map Stp.cs),.int .i64 wh] (cH (insPt u p wh)):=by
 obtain⟨w,rfl⟩:=Int.eq_ofNat_of_zero_le Z
 have O:w<4:=by omega
 have T:=f185 G u p hs.1 hN hp
 have X:=f323 G (w:Int)
 have hL:=f363 G
 have e1:inR (w:Int) 0 3=true:=by simp[inR];omega
 rw[e1]at X
 unfold oneAV at T
 have hid:=cM (u:=u) (p:=p)
 unfold insPt
 obtain⟨⟨i,e⟩,Y⟩:∃z,one u p=z:=⟨_,rfl⟩
 rw[Y]at T hid ⊢
 simp only at T hid ⊢
 refine Pure.w c322 λR M=>?_
 unfold s322 r322
 rcases Classical.em (e=0)with h|h
 ·subst h
  have N:=lR G u i w Z h3 hs (hid rfl) hn (hk i)
  have J:=nX w O
  simp only[Idd.cs]at N
  rw[if_neg (by simp)]at M
  obtain⟨f,hf⟩:∃f,leadV (w:Int)=f:=⟨_,rfl⟩
  rw[hf]at N J
  rcases hz:spot u i w with _|⟨q,k⟩
  ·rw[hz]at M N
   unfold dg at N
   unfold cH at M
   (repeat' (first|(with_reducible first|refine aa T ?_|refine aa X ?_|refine aa hL ?_)|simp only[EVz,seval,↓reduceIte,EV6,EV7,J,E]|simp only[EVz,seval,↓reduceIte,EV6,EV7,J]|(with_reducible intro V I;(try(have F:=I;simp only[EVK]at F;first|(have E:=AI F E)|(have E:=F))))|(with_reducible first|refine ae ?_ ?_|refine af ?_)|(refine bg (e:=376) (L:=4) (n:=w) rfl rfl (by kernel_rfl) (by kernel_rfl) (by kernel_rfl) rfl O ?_)|(refine aD N ?_)))
   all_goals exact RQ M
  ·rw[hz]at M N
   unfold dg at N
   unfold cH at M
   (repeat' (first|(with_reducible first|refine aa T ?_|refine aa X ?_|refine aa hL ?_)|simp only[EVz,seval,↓reduceIte,EV6,EV7,J,E]|simp only[EVz,seval,↓reduceIte,EV6,EV7,J]|(with_reducible intro V I;(try(have F:=I;simp only[EVK]at F;first|(have E:=AI F E)|(have E:=F))))|(with_reducible first|refine ae ?_ ?_|refine af ?_)|(refine bg (e:=376) (L:=4) (n:=w) rfl rfl (by kernel_rfl) (by kernel_rfl) (by kernel_rfl) rfl O ?_)|(refine aD N ?_)))
   all_goals exact RQ M
 ·rw[if_pos h]at M
  unfold cH at M
  (repeat' (first|(with_reducible (refine ab (λh=>?_) (λh=>?_))<;>(try simp only[DZ]at h))|(with_reducible first|refine aa T ?_|refine aa X ?_)|simp only[EVz,seval,↓reduceIte,EV6,EV7,E]|simp only[EVz,seval,↓reduceIte,EV6,EV7]|(with_reducible intro V I;(try(have F:=I;simp only[EVK]at F;first|(have E:=AI F E)|(have E:=F))))|(with_reducible refine ae ?_ ?_)|(exfalso;omega)))
  all_goals exact RQ M
theorem under_eq (u:U) (i t:Idd):under u i t=(decide (t≠i)&&decide (i∈anc t u)):=by
 unfold under anc
 congr 1
 rw[Bool.eq_iff_iff,any_eq_true,decide_eq_true_eq,mem_reverse,mem_map]
 constructor
 ·rintro⟨y,F,E⟩;exact⟨y,F,of_decide_eq_true E⟩
 ·rintro⟨y,F,E⟩;exact⟨y,F,decide_eq_true E⟩
set_option maxHeartbeats 4000000 in
theorem f324 (u:U) (i t:Idd) (wh:Int) (hs:u.Short) (hN:u.flat.length<=1024) (hn:u.ids.Nodup) (hk:∀i q,aM i u=some q->q.2.2<1000000) (an:∀q,spot u t wh=some q->q.2<1000000) (hi:i∈u.ids) (ht:t∈u.ids) (h0:0<=wh) (h3:wh<=3):
  Pure G Tryz.prog 324 [.agg u.cs,.agg i.cs,.agg t.cs,.int .i64 wh] (dg (eS u i t wh)):=by
 have Z:=f286 G i u hs hn
 have hA:=f328 G t u hs.1
 have hC:=f109 G (anc t u) i (by
  unfold anc
  rw[length_reverse,length_map,length_dropLast]
  have:=fS t u
  omega)
 have hL:=f363 G
 have hV:=lR G u t wh h0 h3 hs ht hn (hk t)
 have aw:=under_eq u i t
 unfold kl at Z
 unfold eS
 rw[aw]
 obtain⟨w,rfl⟩:=Int.eq_ofNat_of_zero_le h0
 have ac:w<4:=by omega
 have M:=nX w ac
 obtain⟨f,hf⟩:∃f,leadV (w:Int)=f:=⟨_,rfl⟩
 rw[hf]at hV M
 obtain⟨A,al⟩:∃A,anc t u=A:=⟨_,rfl⟩
 rw[al]at hA hC ⊢
 obtain⟨z,hz⟩:∃z,spot u t w=z:=⟨_,rfl⟩
 rw[hz]at an hV ⊢
 have bh:=hk i
 obtain⟨y,hy⟩:∃y,aM i u=y:=⟨_,rfl⟩
 rw[hy]at Z bh ⊢
 clear hy hz al hf aw hk hn hN hs
 simp only[Idd.cs]at hV hC hA Z
 refine Pure.w c324 λR Y=>?_
 unfold s324 r324
 have hb:besides (w:Int)=(decide ((w:Int)=2)||decide ((w:Int)=3)):=by unfold besides;rw[Bool.decide_or]
 have ad:(decide ((w:Int)=2)=true/\besides (w:Int)=true)\/(decide ((w:Int)=2)=false/\decide ((w:Int)=3)=true/\besides (w:Int)=true)\/(decide ((w:Int)=2)=false/\decide ((w:Int)=3)=false/\besides (w:Int)=false):=by
  rw[hb];cases decide ((w:Int)=2)<;>cases decide ((w:Int)=3)<;>simp
 rcases Classical.em (t=i)with hti|hti
 ·have T:decide (t=i)=true:=decide_eq_true hti
  have V:decide (t≠i)=false:=decide_eq_false (λh=>h hti)
  have J:(!decide (t=i))=false:=by rw[T];rfl
  rcases y with _|⟨own,d,j⟩
  ·rcases ad with⟨N,O⟩|⟨N,O,b3⟩|⟨N,O,b3⟩
   ·(repeat' (first|(with_reducible refine aa Z ?_)|simp only[EVz,seval,↓reduceIte,EV6,EV7,idd_eq,T,V,J,N,E]|simp only[EVz,seval,↓reduceIte,EV6,EV7,idd_eq,T,V,J,N]|(with_reducible intro X I;(try(have F:=I;simp only[EVK]at F;first|(have E:=AI F E)|(have E:=F))))))
    all_goals exact RQ Y
   ·(repeat' (first|(with_reducible refine aa Z ?_)|simp only[EVz,seval,↓reduceIte,EV6,EV7,idd_eq,T,V,J,N,O,E]|simp only[EVz,seval,↓reduceIte,EV6,EV7,idd_eq,T,V,J,N,O]|(with_reducible intro X I;(try(have F:=I;simp only[EVK]at F;first|(have E:=AI F E)|(have E:=F))))))
    all_goals exact RQ Y
   ·(repeat' (first|(with_reducible refine aa Z ?_)|simp only[EVz,seval,↓reduceIte,EV6,EV7,idd_eq,T,V,J,N,O,E]|simp only[EVz,seval,↓reduceIte,EV6,EV7,idd_eq,T,V,J,N,O]|(with_reducible intro X I;(try(have F:=I;simp only[EVK]at F;first|(have E:=AI F E)|(have E:=F))))))
    all_goals exact RQ Y
  ·simp only[V,Bool.false_and,Bool.false_eq_true,false_or]at Y
   rcases ad with⟨N,O⟩|⟨N,O,b3⟩|⟨N,O,b3⟩
   ·rw[if_neg (by rw[O];simp),if_pos hti]at Y
    (repeat' (first|(with_reducible refine aa Z ?_)|simp only[EVz,seval,↓reduceIte,EV6,EV7,idd_eq,T,V,J,N,E]|simp only[EVz,seval,↓reduceIte,EV6,EV7,idd_eq,T,V,J,N]|(with_reducible intro X I;(try(have F:=I;simp only[EVK]at F;first|(have E:=AI F E)|(have E:=F))))))
    all_goals exact RQ Y
   ·rw[if_neg (by rw[b3];simp),if_pos hti]at Y
    (repeat' (first|(with_reducible refine aa Z ?_)|simp only[EVz,seval,↓reduceIte,EV6,EV7,idd_eq,T,V,J,N,O,E]|simp only[EVz,seval,↓reduceIte,EV6,EV7,idd_eq,T,V,J,N,O]|(with_reducible intro X I;(try(have F:=I;simp only[EVK]at F;first|(have E:=AI F E)|(have E:=F))))))
    all_goals exact RQ Y
   ·rw[if_pos ⟨hti,b3⟩]at Y
    (repeat' (first|(with_reducible refine aa Z ?_)|simp only[EVz,seval,↓reduceIte,EV6,EV7,idd_eq,T,V,J,N,O,E]|simp only[EVz,seval,↓reduceIte,EV6,EV7,idd_eq,T,V,J,N,O]|(with_reducible intro X I;(try(have F:=I;simp only[EVK]at F;first|(have E:=AI F E)|(have E:=F))))))
    all_goals exact RQ Y
 ·have T:decide (t=i)=false:=decide_eq_false hti
  have V:decide (t≠i)=true:=decide_eq_true hti
  have J:(!decide (t=i))=true:=by rw[T];rfl
  rcases y with _|⟨own,d,j⟩
  ·obtain⟨bb,ag⟩:∃bb,decide (i∈A)=bb:=⟨_,rfl⟩
   rw[ag]at hC
   rcases ad with⟨N,O⟩|⟨N,O,b3⟩|⟨N,O,b3⟩
   ·(repeat' (first|(with_reducible first|refine aa Z ?_|refine aa hA ?_|refine aa hC ?_)|simp only[EVz,seval,↓reduceIte,EV6,EV7,idd_eq,T,V,J,N,E]|simp only[EVz,seval,↓reduceIte,EV6,EV7,idd_eq,T,V,J,N]|(with_reducible intro X I;(try(have F:=I;simp only[EVK]at F;first|(have E:=AI F E)|(have E:=F))))))
    all_goals exact RQ Y
   ·(repeat' (first|(with_reducible first|refine aa Z ?_|refine aa hA ?_|refine aa hC ?_)|simp only[EVz,seval,↓reduceIte,EV6,EV7,idd_eq,T,V,J,N,O,E]|simp only[EVz,seval,↓reduceIte,EV6,EV7,idd_eq,T,V,J,N,O]|(with_reducible intro X I;(try(have F:=I;simp only[EVK]at F;first|(have E:=AI F E)|(have E:=F))))))
    all_goals exact RQ Y
   ·(repeat' (first|(with_reducible first|refine aa Z ?_|refine aa hA ?_|refine aa hC ?_)|simp only[EVz,seval,↓reduceIte,EV6,EV7,idd_eq,T,V,J,N,O,E]|simp only[EVz,seval,↓reduceIte,EV6,EV7,idd_eq,T,V,J,N,O]|(with_reducible intro X I;(try(have F:=I;simp only[EVK]at F;first|(have E:=AI F E)|(have E:=F))))))
    all_goals exact RQ Y
  ·simp only[V,Bool.true_and,hti,false_and,or_false,if_false]at Y
   cases ag:decide (i∈A)with
   |true=>
    rw[ag]at hC Y
    rw[if_pos rfl]at Y
    rcases ad with⟨N,O⟩|⟨N,O,b3⟩|⟨N,O,b3⟩
    ·(repeat' (first|(with_reducible first|refine aa Z ?_|refine aa hA ?_|refine aa hC ?_)|simp only[EVz,seval,↓reduceIte,EV6,EV7,idd_eq,T,V,J,N,E]|simp only[EVz,seval,↓reduceIte,EV6,EV7,idd_eq,T,V,J,N]|(with_reducible intro X I;(try(have F:=I;simp only[EVK]at F;first|(have E:=AI F E)|(have E:=F))))))
     all_goals exact RQ Y
    ·(repeat' (first|(with_reducible first|refine aa Z ?_|refine aa hA ?_|refine aa hC ?_)|simp only[EVz,seval,↓reduceIte,EV6,EV7,idd_eq,T,V,J,N,O,E]|simp only[EVz,seval,↓reduceIte,EV6,EV7,idd_eq,T,V,J,N,O]|(with_reducible intro X I;(try(have F:=I;simp only[EVK]at F;first|(have E:=AI F E)|(have E:=F))))))
     all_goals exact RQ Y
    ·(repeat' (first|(with_reducible first|refine aa Z ?_|refine aa hA ?_|refine aa hC ?_)|simp only[EVz,seval,↓reduceIte,EV6,EV7,idd_eq,T,V,J,N,O,E]|simp only[EVz,seval,↓reduceIte,EV6,EV7,idd_eq,T,V,J,N,O]|(with_reducible intro X I;(try(have F:=I;simp only[EVK]at F;first|(have E:=AI F E)|(have E:=F))))))
     all_goals exact RQ Y
   |false=>
    rw[ag]at hC Y
    rw[if_neg (by simp)]at Y
    rcases z with _|⟨q,k⟩
    ·unfold dg at hV
     rcases ad with⟨N,O⟩|⟨N,O,b3⟩|⟨N,O,b3⟩
     ·(repeat' (first|(with_reducible first|refine aa Z ?_|refine aa hA ?_|refine aa hC ?_|refine aa hL ?_)|simp only[EVz,seval,↓reduceIte,EV6,EV7,idd_eq,T,V,J,N,M,E]|simp only[EVz,seval,↓reduceIte,EV6,EV7,idd_eq,T,V,J,N,M]|(with_reducible intro X I;(try(have F:=I;simp only[EVK]at F;first|(have E:=AI F E)|(have E:=F))))|(with_reducible first|refine ae ?_ ?_|refine af ?_)|(refine bg (e:=376) (L:=4) (n:=w) rfl rfl (by kernel_rfl) (by kernel_rfl) (by kernel_rfl) rfl ac ?_)|(refine aD hV ?_)))
      all_goals exact RQ Y
     ·(repeat' (first|(with_reducible first|refine aa Z ?_|refine aa hA ?_|refine aa hC ?_|refine aa hL ?_)|simp only[EVz,seval,↓reduceIte,EV6,EV7,idd_eq,T,V,J,N,O,M,E]|simp only[EVz,seval,↓reduceIte,EV6,EV7,idd_eq,T,V,J,N,O,M]|(with_reducible intro X I;(try(have F:=I;simp only[EVK]at F;first|(have E:=AI F E)|(have E:=F))))|(with_reducible first|refine ae ?_ ?_|refine af ?_)|(refine bg (e:=376) (L:=4) (n:=w) rfl rfl (by kernel_rfl) (by kernel_rfl) (by kernel_rfl) rfl ac ?_)|(refine aD hV ?_)))
      all_goals exact RQ Y
     ·(repeat' (first|(with_reducible first|refine aa Z ?_|refine aa hA ?_|refine aa hC ?_|refine aa hL ?_)|simp only[EVz,seval,↓reduceIte,EV6,EV7,idd_eq,T,V,J,N,O,M,E]|simp only[EVz,seval,↓reduceIte,EV6,EV7,idd_eq,T,V,J,N,O,M]|(with_reducible intro X I;(try(have F:=I;simp only[EVK]at F;first|(have E:=AI F E)|(have E:=F))))|(with_reducible first|refine ae ?_ ?_|refine af ?_)|(refine bg (e:=376) (L:=4) (n:=w) rfl rfl (by kernel_rfl) (by kernel_rfl) (by kernel_rfl) rfl ac ?_)|(refine aD hV ?_)))
      all_goals exact RQ Y
    ·unfold dg at hV
     have be:=an _ rfl
     simp only at be
     simp only[Option.map_some]at Y
     cases q1:decide (q=own.id)with
     |false=>
      have ah:=of_decide_eq_false q1
      rw[if_neg (λh=>ah h.1)]at Y
      rcases ad with⟨N,O⟩|⟨N,O,b3⟩|⟨N,O,b3⟩
      ·(repeat' (first|(with_reducible first|refine aa Z ?_|refine aa hA ?_|refine aa hC ?_|refine aa hL ?_)|simp only[EVz,seval,↓reduceIte,EV6,EV7,idd_eq,T,V,J,N,M,q1,E]|simp only[EVz,seval,↓reduceIte,EV6,EV7,idd_eq,T,V,J,N,M,q1]|(with_reducible intro X I;(try(have F:=I;simp only[EVK]at F;first|(have E:=AI F E)|(have E:=F))))|(with_reducible first|refine ae ?_ ?_|refine af ?_)|(refine bg (e:=376) (L:=4) (n:=w) rfl rfl (by kernel_rfl) (by kernel_rfl) (by kernel_rfl) rfl ac ?_)|(refine aD hV ?_)))
       all_goals exact RQ Y
      ·(repeat' (first|(with_reducible first|refine aa Z ?_|refine aa hA ?_|refine aa hC ?_|refine aa hL ?_)|simp only[EVz,seval,↓reduceIte,EV6,EV7,idd_eq,T,V,J,N,O,M,q1,E]|simp only[EVz,seval,↓reduceIte,EV6,EV7,idd_eq,T,V,J,N,O,M,q1]|(with_reducible intro X I;(try(have F:=I;simp only[EVK]at F;first|(have E:=AI F E)|(have E:=F))))|(with_reducible first|refine ae ?_ ?_|refine af ?_)|(refine bg (e:=376) (L:=4) (n:=w) rfl rfl (by kernel_rfl) (by kernel_rfl) (by kernel_rfl) rfl ac ?_)|(refine aD hV ?_)))
       all_goals exact RQ Y
      ·(repeat' (first|(with_reducible first|refine aa Z ?_|refine aa hA ?_|refine aa hC ?_|refine aa hL ?_)|simp only[EVz,seval,↓reduceIte,EV6,EV7,idd_eq,T,V,J,N,O,M,q1,E]|simp only[EVz,seval,↓reduceIte,EV6,EV7,idd_eq,T,V,J,N,O,M,q1]|(with_reducible intro X I;(try(have F:=I;simp only[EVK]at F;first|(have E:=AI F E)|(have E:=F))))|(with_reducible first|refine ae ?_ ?_|refine af ?_)|(refine bg (e:=376) (L:=4) (n:=w) rfl rfl (by kernel_rfl) (by kernel_rfl) (by kernel_rfl) rfl ac ?_)|(refine aD hV ?_)))
       all_goals exact RQ Y
     |true=>
      have ah:=of_decide_eq_true q1
      cases q2:decide ((j:Int)<(k:Int))with
      |false=>
       have bd:=of_decide_eq_false q2
       rw[if_neg (λh=>bd (by omega))]at Y
       rcases ad with⟨N,O⟩|⟨N,O,b3⟩|⟨N,O,b3⟩
       ·(repeat' (first|(with_reducible first|refine aa Z ?_|refine aa hA ?_|refine aa hC ?_|refine aa hL ?_)|simp only[EVz,seval,↓reduceIte,EV6,EV7,idd_eq,T,V,J,N,M,q1,q2,E]|simp only[EVz,seval,↓reduceIte,EV6,EV7,idd_eq,T,V,J,N,M,q1,q2]|(with_reducible intro X I;(try(have F:=I;simp only[EVK]at F;first|(have E:=AI F E)|(have E:=F))))|(with_reducible first|refine ae ?_ ?_|refine af ?_)|(refine bg (e:=376) (L:=4) (n:=w) rfl rfl (by kernel_rfl) (by kernel_rfl) (by kernel_rfl) rfl ac ?_)|(refine aD hV ?_)))
        all_goals exact RQ Y
       ·(repeat' (first|(with_reducible first|refine aa Z ?_|refine aa hA ?_|refine aa hC ?_|refine aa hL ?_)|simp only[EVz,seval,↓reduceIte,EV6,EV7,idd_eq,T,V,J,N,O,M,q1,q2,E]|simp only[EVz,seval,↓reduceIte,EV6,EV7,idd_eq,T,V,J,N,O,M,q1,q2]|(with_reducible intro X I;(try(have F:=I;simp only[EVK]at F;first|(have E:=AI F E)|(have E:=F))))|(with_reducible first|refine ae ?_ ?_|refine af ?_)|(refine bg (e:=376) (L:=4) (n:=w) rfl rfl (by kernel_rfl) (by kernel_rfl) (by kernel_rfl) rfl ac ?_)|(refine aD hV ?_)))
        all_goals exact RQ Y
       ·(repeat' (first|(with_reducible first|refine aa Z ?_|refine aa hA ?_|refine aa hC ?_|refine aa hL ?_)|simp only[EVz,seval,↓reduceIte,EV6,EV7,idd_eq,T,V,J,N,O,M,q1,q2,E]|simp only[EVz,seval,↓reduceIte,EV6,EV7,idd_eq,T,V,J,N,O,M,q1,q2]|(with_reducible intro X I;(try(have F:=I;simp only[EVK]at F;first|(have E:=AI F E)|(have E:=F))))|(with_reducible first|refine ae ?_ ?_|refine af ?_)|(refine bg (e:=376) (L:=4) (n:=w) rfl rfl (by kernel_rfl) (by kernel_rfl) (by kernel_rfl) rfl ac ?_)|(refine aD hV ?_)))
        all_goals exact RQ Y
      |true=>
       have bd:=of_decide_eq_true q2
       rw[if_pos ⟨ah,by omega⟩]at Y
       have ew:IntKind.i64.wrap ((k:Int)-1)=((k-1:Nat):Int):=by rw[av (by omega) (by omega)];omega
       rcases ad with⟨N,O⟩|⟨N,O,b3⟩|⟨N,O,b3⟩
       ·(repeat' (first|(with_reducible first|refine aa Z ?_|refine aa hA ?_|refine aa hC ?_|refine aa hL ?_)|simp only[EVz,seval,↓reduceIte,EV6,EV7,idd_eq,T,V,J,N,M,q1,q2,ew,E]|simp only[EVz,seval,↓reduceIte,EV6,EV7,idd_eq,T,V,J,N,M,q1,q2,ew]|(with_reducible intro X I;(try(have F:=I;simp only[EVK]at F;first|(have E:=AI F E)|(have E:=F))))|(with_reducible first|refine ae ?_ ?_|refine af ?_)|(refine bg (e:=376) (L:=4) (n:=w) rfl rfl (by kernel_rfl) (by kernel_rfl) (by kernel_rfl) rfl ac ?_)|(refine aD hV ?_)))
        all_goals exact RQ Y
       ·(repeat' (first|(with_reducible first|refine aa Z ?_|refine aa hA ?_|refine aa hC ?_|refine aa hL ?_)|simp only[EVz,seval,↓reduceIte,EV6,EV7,idd_eq,T,V,J,N,O,M,q1,q2,ew,E]|simp only[EVz,seval,↓reduceIte,EV6,EV7,idd_eq,T,V,J,N,O,M,q1,q2,ew]|(with_reducible intro X I;(try(have F:=I;simp only[EVK]at F;first|(have E:=AI F E)|(have E:=F))))|(with_reducible first|refine ae ?_ ?_|refine af ?_)|(refine bg (e:=376) (L:=4) (n:=w) rfl rfl (by kernel_rfl) (by kernel_rfl) (by kernel_rfl) rfl ac ?_)|(refine aD hV ?_)))
        all_goals exact RQ Y
       ·(repeat' (first|(with_reducible first|refine aa Z ?_|refine aa hA ?_|refine aa hC ?_|refine aa hL ?_)|simp only[EVz,seval,↓reduceIte,EV6,EV7,idd_eq,T,V,J,N,O,M,q1,q2,ew,E]|simp only[EVz,seval,↓reduceIte,EV6,EV7,idd_eq,T,V,J,N,O,M,q1,q2,ew]|(with_reducible intro X I;(try(have F:=I;simp only[EVK]at F;first|(have E:=AI F E)|(have E:=F))))|(with_reducible first|refine ae ?_ ?_|refine af ?_)|(refine bg (e:=376) (L:=4) (n:=w) rfl rfl (by kernel_rfl) (by kernel_rfl) (by kernel_rfl) rfl ac ?_)|(refine aD hV ?_)))
        all_goals exact RQ Y
end
theorem dest_ins (u:U) (x:Itm) (h:x.kind=0):dest u x=insPt u x.at_ x.wh:=by
 unfold dest insPt
 split
 ·rfl
 ·rfl
section
variable (G:Glob)
set_option maxHeartbeats 4000000 in
theorem f270 (u:U) (x:Itm) (hs:u.Short) (hN:u.flat.length<=1024) (hn:u.ids.Nodup) (hk:∀i q,aM i u=some q->q.2.2<1000000) (ah:∀i w q,spot u i w=some q->q.2<1000000) (ag:x.kind=0\/x.kind=6) (h0:0<=x.wh) (h3:x.wh<=3) (hp:x.at_.length<1000000) (al:x.to_.length<1000000):
  Pure G Tryz.prog 270 [.agg u.cs,.agg x.cs] (cH (dest u x)):=by
 have Z:=f185 G u x.at_ hs.1 hN hp
 have O:=f185 G u x.to_ hs.1 hN al
 have hI:=f322 G u x.at_ x.wh hs hN hn hk hp h0 h3
 have hW:=f323 G x.wh
 have e1:inR x.wh 0 3=true:=by simp[inR];omega
 rw[e1]at hW
 rw[Itm.cs_eq x]
 refine Pure.w c270 λR J=>?_
 unfold s270 r270
 rcases ag with h|h
 ·rw[dest_ins u x h]at J
  have N:decide (x.kind=0)=true:=decide_eq_true h
  obtain⟨z,hz⟩:∃z,insPt u x.at_ x.wh=z:=⟨_,rfl⟩
  rw[hz]at hI J
  unfold cH at hI J
  rcases z with⟨q,k⟩|e
  ·(repeat' (first|(with_reducible refine aa hI ?_)|simp only[EVz,seval,↓reduceIte,EV6,EV7,N,F]|simp only[EVz,seval,↓reduceIte,EV6,EV7,N]|(with_reducible intro T I;(try(have E:=I;simp only[EVK]at E;(have F:=E))))))
   all_goals exact RQ J
  ·(repeat' (first|(with_reducible refine aa hI ?_)|simp only[EVz,seval,↓reduceIte,EV6,EV7,N,F]|simp only[EVz,seval,↓reduceIte,EV6,EV7,N]|(with_reducible intro T I;(try(have E:=I;simp only[EVK]at E;(have F:=E))))))
   all_goals exact RQ J
 ·have N:decide (x.kind=0)=false:=decide_eq_false (by omega)
  have Y:decide (x.kind=6)=true:=decide_eq_true h
  have M:decide (x.kind≠6)=false:=decide_eq_false (by omega)
  unfold oneAV at Z O
  unfold dest at J
  rw[if_neg (show ¬x.kind=0 by omega)]at J
  have hid:=cM (u:=u) (p:=x.at_)
  have X:=cM (u:=u) (p:=x.to_)
  obtain⟨⟨i,e⟩,ad⟩:∃z,one u x.at_=z:=⟨_,rfl⟩
  obtain⟨⟨t,e'⟩,ac⟩:∃z,one u x.to_=z:=⟨_,rfl⟩
  rw[ad]at Z hid J
  rw[ac]at O X J
  simp only at Z O hid X J
  rcases Classical.em (e=0)with g|g
  ·subst g
   rw[if_neg (by simp)]at J
   rcases Classical.em (e'=0)with g'|g'
   ·subst g'
    rw[if_neg (by simp)]at J
    have V:=f324 G u i t x.wh hs hN hn hk (ah t x.wh) (hid rfl) (X rfl) h0 h3
    simp only[Idd.cs]at V
    obtain⟨z,hz⟩:∃z,eS u i t x.wh=z:=⟨_,rfl⟩
    rw[hz]at V J
    unfold dg at V
    unfold cH at J
    rcases z with _|⟨q,k⟩
    ·(repeat' (first|(with_reducible first|refine aa Z ?_|refine aa O ?_|refine aa hW ?_|refine aa V ?_)|simp only[EVz,seval,↓reduceIte,EV6,EV7,N,Y,M,F]|simp only[EVz,seval,↓reduceIte,EV6,EV7,N,Y,M]|(with_reducible intro T I;(try(have E:=I;simp only[EVK]at E;first|(have F:=AI E F)|(have F:=E))))))
     all_goals exact RQ J
    ·(repeat' (first|(with_reducible first|refine aa Z ?_|refine aa O ?_|refine aa hW ?_|refine aa V ?_)|simp only[EVz,seval,↓reduceIte,EV6,EV7,N,Y,M,F]|simp only[EVz,seval,↓reduceIte,EV6,EV7,N,Y,M]|(with_reducible intro T I;(try(have E:=I;simp only[EVK]at E;first|(have F:=AI E F)|(have F:=E))))|(with_reducible first|refine ae ?_ ?_|refine af ?_)))
     all_goals exact RQ J
   ·rw[if_pos g']at J
    have g2:decide (e'=0)=false:=decide_eq_false g'
    unfold cH at J
    (repeat' (first|(with_reducible (refine ab (λh=>?_) (λh=>?_))<;>(try simp only[DZ]at h))|(with_reducible first|refine aa Z ?_|refine aa O ?_|refine aa hW ?_)|simp only[EVz,seval,↓reduceIte,EV6,EV7,N,Y,M,g',F]|simp only[EVz,seval,↓reduceIte,EV6,EV7,N,Y,M,g']|(with_reducible intro T I;(try(have E:=I;simp only[EVK]at E;first|(have F:=AI E F)|(have F:=E))))|(exfalso;omega)))
    all_goals exact RQ J
  ·rw[if_pos g]at J
   unfold cH at J
   (repeat' (first|(with_reducible (refine ab (λh=>?_) (λh=>?_))<;>(try simp only[DZ]at h))|(with_reducible first|refine aa Z ?_|refine aa hW ?_)|simp only[EVz,seval,↓reduceIte,EV6,EV7,N,Y,M,g,F]|simp only[EVz,seval,↓reduceIte,EV6,EV7,N,Y,M,g]|(with_reducible intro T I;(try(have E:=I;simp only[EVK]at E;first|(have F:=AI E F)|(have F:=E))))|(exfalso;omega)))
   all_goals exact RQ J
end
def U.csv (x:U) (v:AV):List AV:=[.int .i64 x.id.act,.int .i64 x.id.item,.int .i64 x.id.n,.int .i64 x.kind,.str x.label,.lst 4 (x.head.map Wd.cs),.lst 4 (x.words.map Wd.cs),v]
def jl (G:Glob) (f:Value) (g:U->U) (σ:Store) (x:U):Prop:=
 ∀b v κ,aO 29 8 (x.kids.map U.cs) v κ->(Store.keys ((b,AObj.cells 29 (x.csv v))::(σ++κ))).Nodup->
  cn G Tryz.prog f [.sc (.pointer (some ⟨b,0,none⟩))] ((b,.cells 29 (x.csv v))::(σ++κ)) (λr σ'=>∃F E,aO 29 8 ((g x).kids.map U.cs) F E/\σ'=(b,.cells 29 ((g x).csv F))::(σ++E))
theorem U.csv_frz {x:U} {v:AV} {κ:Store} (h:aO 29 8 (x.kids.map U.cs) v κ):FrzL κ (x.csv v) x.cs:=by
 rw[U.cs_eq]
 exact⟨.inl rfl,.inl rfl,.inl rfl,.inl rfl,.inl rfl,.inl rfl,.inl rfl,.inr ⟨29,8,_,_,h,λq E=>E,rfl⟩,trivial⟩
theorem split_at {i:Idd} {us a b:List U} {k:U} (e:us=a++k::b) (E:(U.idss us).Nodup) (hi:i∈k.ids):Split i us a k b:=by
 subst e
 have e:U.idss (a++k::b)=U.idss a++(k.ids++U.idss b):=by
  induction a with
  |nil=>rw[nil_append,U.idss_cons,U.idss_nil];rfl
  |cons x a ih=>
   rw[cons_append,U.idss_cons,U.idss_cons]
   rw[cons_append,U.idss_cons]at E
   rw[ih (nodup_append.1 E).2.1,append_assoc]
 rw[e]at E
 obtain⟨N,F,I⟩:=nodup_append.1 E
 obtain⟨J,O,M⟩:=nodup_append.1 F
 exact⟨rfl,hi,λh=>I i h i (mem_append.2 (.inl hi)) rfl,λh=>M i hi i h rfl,J⟩
theorem fnd_split {i:Idd} {u:U} {a b:List U} {k:U} (h:u.id≠i) (s:Split i u.kids a k b):fnd i u=fnd i k:=by
 unfold Go.Av.fnd
 rw[s.way h]
 have:=gx s.mem
 cases E:U.way i k<;>simp_all[getLastD_cons]
theorem SubN.comm5 {a b c d e:Nat×AObj} {σ:Store}:SubN (c::d::e::σ) (σ++[a,b,c,d,e]):=
 SubN.trans (SubN.tail (SubN.tail (SubN.refl _) _) _) (SubN.perm (perm_append_comm (l₁:=[a,b,c,d,e]) (l₂:=σ)))
theorem nd_pull {κ σ:Store} {p b:Nat} {A B C:AObj} (h:(κ++(p,A)::(b,B)::σ:Store).keys.Nodup):(Store.keys ((b,C)::(σ++κ))).Nodup:=by
 have:=(SubN.trans (SubN.cons (SubN.perm perm_append_comm) _) (SubN.trans (SubN.cons (SubN.tail (SubN.refl _) _) _) SubN.pull2')).2 h
 simpa[Store.keys]using this
section
variable (G:Glob)
set_option maxHeartbeats 4000000 in
theorem f276 (f:Value) (g:U->U) (σ:Store) (i:Idd):∀(u:U),u.Short->u.ids.Nodup->i∈u.ids->jl G f g σ (fnd i u)->
  aj G Tryz.prog 276 [.agg u.cs,.agg i.cs,.sc f] σ (λr σ'=>r= .agg (U.wth i g u).cs/\σ'=σ):=by
 refine U.ind λu ih hs hn hi hD=>?_
 have dl:=hs.1.kids
 have bb:=f330 G (u.kids.map U.cs) (iA _) (by rw[length_map];omega)
 refine aj.freezeK (R1:=λσ'=>σ'=σ) ?_
 refine aj.w c276 ?_
 unfold s276 r276
 by_cases h0:u.id=i
 ·have e0:decide (u.id=i)=true:=decide_eq_true h0
  have cp:fnd i u=u:=aQ (by rw[aV h0];rfl)
  rw[cp]at hD
  rw[cC h0,U.cs_eq u]
  (repeat' (first|simp only[EVz,seval,↓reduceIte,EV6,EV7,idd_eq,e0,E]|simp only[EVz,seval,↓reduceIte,EV6,EV7,idd_eq,e0]|(with_reducible intro F I;(try(have J:=I;simp only[EVK]at J;(have E:=J))))))
  rename_i T cm
  refine bC [] ((F,_)::(T,_)::σ) bb.v (aA.rfl' _) (SubN.refl _) (λv κ ho V=>⟨_,SubN.pull2',?_⟩)
  have hv:=ho
  obtain⟨aw,cap,rfl,_⟩:=hv
  have q1:¬T=F:=λe=>E.1 e.symm
  (repeat' (simp only[EVz,seval,↓reduceIte,EV6,EV7,q1,E]))
  rw[length_map]at ho
  have bd:=hD T _ κ ho (nd_pull V)
  simp only[U.csv]at bd
  refine bC ((T,_)::(σ++κ)) [(F,_)] bd (aA.rfl' _) SubN.push' (λr ds hr bm=>?_)
  obtain⟨v2,bx,ag,rfl⟩:=hr
  refine⟨_,SubN.pop',?_⟩
  have hv:=ag
  obtain⟨cl,d4,rfl,_⟩:=hv
  (repeat' (simp only[EVz,seval,↓reduceIte,EV6,EV7,q1,E]))
  rw[length_map]at ag
  refine RET.mk' (σ':=bx++σ) (SubN.tail (SubN.tail (SubN.refl _) _) _) ⟨_,bx,σ,rfl,U.csv_frz ag,rfl,rfl⟩
 ·have e0:decide (u.id=i)=false:=decide_eq_false h0
  have ad:i∈U.idss u.kids:=by
   rw[U.ids_eq,mem_cons]at hi
   exact hi.resolve_left (Ne.symm h0)
  have bn:u.kids≠[]:=by intro h;rw[h,U.idss_nil]at ad;cases ad
  have d2:=(U.nd_kids hn).1
  rw[U.cs_eq u]
  (repeat' (first|simp only[EVz,seval,↓reduceIte,EV6,EV7,idd_eq,e0,E]|simp only[EVz,seval,↓reduceIte,EV6,EV7,idd_eq,e0]|(with_reducible intro F I;(try(have J:=I;simp only[EVK]at J;(have E:=J))))))
  rename_i T cm
  refine bC [] ((F,_)::(T,_)::σ) bb.v (aA.rfl' _) (SubN.refl _) (λv κ ho V=>⟨_,SubN.pull2',?_⟩)
  have hv:=ho
  obtain⟨aw,cap,rfl,hv⟩:=hv
  rw[length_map]at ho
  rcases hv with⟨h1,_⟩|⟨Z,pad,rfl,rfl,g1,g2,g3,g4⟩
  ·exact absurd (map_eq_nil_iff.1 h1) bn
  have q1:¬T=F:=λe=>E.1 e.symm
  have q0:¬F=T:=E.1
  simp[Store.keys]at V
  have q2:¬Z=F:=V.1.1
  have q3:¬Z=T:=V.1.2.1
  have al:¬F=Z:=λe=>q2 e.symm
  have an:¬T=Z:=λe=>q3 e.symm
  rw[length_map]at g1
  (repeat' (first|simp only[EVz,seval,↓reduceIte,EV6,EV7,length_map,M.yes,M.le0,M.lt',M.get,M.row,hw]|simp only[EVz,seval,↓reduceIte,EV6,EV7,length_map,hn]|(refine ax u.kids (λN r (c:Unit)=>i∈U.idss r) (λN c=>[(2,.sc f),(3,.sc (.pointer (some ⟨T,0,none⟩))),(4,.ref i.cs),(6,.sc (.pointer (some ⟨F,0,none⟩))),(7,.sc (.slice (some ⟨Z,0,none⟩) u.kids.length cap)),(26,.sc (.slice (some ⟨Z,0,none⟩) u.kids.length cap)),(27,.int .i64 u.kids.length),(28,.int .i64 N)]) (λN c=>[(T,.cells 29 (U.csv u (.lst 8 (u.kids.map U.cs)))),(F,.cells 29 [.int .i64 0,.int .i64 0,.int .i64 0,.int .i64 0,.str [],.nil,.nil,.nil]),(Z,.cells 29 ((u.kids.map U.cs).flatten++pad))]++σ) () ad (Weak.rfl' _ _) (by omega) (λN x r c X M hw=>?_) (λc X hn=>?_))))
  ·have O:=M.lt
   have ah:u.kids[N]? =some x:=by rw[getElem?_eq_getElem O,←M.get x];simp[O]
   have d0:(u.kids.map U.cs)[N]? =some x.cs:=by rw[getElem?_map,ah];rfl
   have ac:(((u.kids.map U.cs).flatten++pad).drop (0+N*8)).take 8=x.cs:=by simpa using ju (pad:=pad) g3 d0
   have dc:8<=(((u.kids.map U.cs).flatten++pad).drop (0+N*8)).length:=by
    rw[length_drop,g4];omega
   have dd:0+N*8+8<=((u.kids.map U.cs).flatten++pad).length:=by
    rw[g4];omega
   have hF:=f111 G i x (hs.kid M.mem)
   unfold ja at hF
   simp only[Idd.cs]at hF
   by_cases Y:i∈x.ids
   ·rw[fU Y,if_neg (by simp)]at hF
    have be:u.kids=u.kids.take N++x::u.kids.drop (N+1):=by
     have h3:u.kids.drop N=x::u.kids.drop (N+1):=by
      rw[drop_eq_getElem_cons O]
      congr 1
      rw[getElem?_eq_getElem O]at ah
      exact Option.some.inj ah
     rw[←h3,take_append_drop]
    have sp:=split_at be d2 Y
    have cw:=fnd_split h0 sp
    clear be
    have bh:=ih x M.mem (hs.kid M.mem) sp.nd Y (by rw[←cw];exact hD)
    have bw:=sp.wth (f:=g) h0
    have bp:splice ((u.kids.map U.cs).flatten++pad) (0+N*8) (U.wth i g x).cs=((u.kids.set N (U.wth i g x)).map U.cs).flatten++pad:=by
     rw[map_set]
     simpa using jv (pad:=pad) g3 (by rw[length_map];exact O) (U.cs_len _)
    have d1:u.kids.take N++U.wth i g x::u.kids.drop (N+1)=u.kids.set N (U.wth i g x):=by
     rw[set_eq_take_append_cons_drop,if_pos O]
    rw[d1]at bw
    simp only[Idd.cs]at bh
    (repeat' (first|(with_reducible first|refine AI (by omega) ?_|refine aa hF ?_)|simp only[EVz,seval,↓reduceIte,EV6,EV7,M.yes,M.le0,M.lt',M.get,hw,ac,q0,q1,q2,q3,al,an,E]|(with_reducible intro F I;(try(have J:=I;simp only[EVK]at J;(have E:=AI J E))))))
    refine bC σ [_,_,_,_,_] bh.v (aA.rfl' _) (SubN.perm (perm_append_comm (l₁:=σ) (l₂:=[_,_,_,_,_]))) (λr1 ch hr bm=>?_)
    obtain⟨rfl,rfl⟩:=hr
    refine⟨_,SubN.comm5,?_⟩
    (repeat' (first|(with_reducible refine AI (by omega) ?_)|simp only[EVz,seval,↓reduceIte,EV6,EV7,M.yes,M.le0,M.lt',M.get,hw,ac,bp,q0,q1,q2,q3,al,an,U.csv,E]))
    refine RET.mk' (σ':=[(Z,_)]++ch) (SubN.tail (SubN.tail (SubN.refl _) _) _) ⟨_,[(Z,_)],ch,rfl,?_,rfl,rfl⟩
    rw[bw]
    refine U.csv_frz (x:={u with kids:=u.kids.set N (U.wth i g x)}) (aO.mk (by rw[length_map,length_set]) (by rw[length_map,length_set];exact g1) g2 (iA _) ?_)
    rw[←g4,length_append,length_append,ap _ (iA _),ap _ (iA _),length_map,length_map,length_set]
   ·have d3:(U.way i x).isEmpty=true:=by rw[(dS x).2 Y];rfl
    rw[d3,if_pos rfl]at hF
    rw[U.idss_cons,mem_append]at X
    have bo:=X.resolve_left Y
    (repeat' (first|(with_reducible first|refine AI (by omega) ?_|refine aa hF ?_)|simp only[EVz,seval,↓reduceIte,EV6,EV7,M.yes,M.le0,M.lt',M.get,hw,ac,q0,q1,q2,q3,al,an,E]|(with_reducible intro F I;(try(have J:=I;simp only[EVK]at J;(have E:=AI J E))))))
    exact am M () bo (Weak.sub (SubN.tail (SubN.tail (SubN.refl _) _) _))
  ·rw[U.idss_nil]at X;cases X
end
end Go.Av
