/-
  ENACT, M23: the position that an address and a Where denote, and where a unit goes.
-/
import Derived.Test.YtnoakpkjccigoaaGreatDoorXM14toXAv36
namespace Go.Av
open Go Go.RowKit Go.Proofs List
set_option linter.unusedSimpArgs false
set_option linter.unusedVariables false
def insPt (u:U) (p:List Stp) (wh:Int):(Idd×Nat) ⊕ Int:=
 if (one u p).2≠0 then .inr (one u p).2 else match spot u (one u p).1 wh with|none=>.inr 9|some q=>.inl q
section
variable (G:Glob)
set_option maxHeartbeats 4000000 in
theorem f232 (u:U) (p:List Stp) (wh:Int) (hs:u.Short) (hN:u.flat.length<=1024) (hn:u.ids.Nodup) (hk:∀i q,aF i u=some q->q.2.2<1000000) (hp:p.length<1000000) (h0:0<=wh) (h3:wh<=3):
  Pure G Tryz.prog 232 [.agg u.cs,.lst 2 (p.map Stp.cs),.int .i64 wh] (cI (insPt u p wh)):=by
 obtain⟨w,rfl⟩:=Int.eq_ofNat_of_zero_le h0
 have hw4:w<4:=by omega
 have hO:=f43 G u p hs.1 hN hp
 have hW:=f233 G (w:Int)
 have hL:=f273 G
 have e1:inR (w:Int) 0 3=true:=by simp[inR];omega
 rw[e1]at hW
 unfold lH at hO
 have hid:=bZ (u:=u) (p:=p)
 unfold insPt
 obtain⟨⟨i,e⟩,hie⟩:∃z,one u p=z:=⟨_,rfl⟩
 rw[hie]at hO hid ⊢
 simp only at hO hid ⊢
 refine Pure.w c232 λR hR=>?_
 unfold s232 r232
 rcases Classical.em (e=0)with h|h
 ·subst h
  have hV:=lw G u i w h0 h3 hs (hid rfl) hn (hk i)
  have hget:=nX w hw4
  simp only[Idd.cs]at hV
  rw[if_neg (by simp)]at hR
  obtain⟨f,hf⟩:∃f,leadV (w:Int)=f:=⟨_,rfl⟩
  rw[hf]at hV hget
  rcases hz:spot u i w with _|⟨q,k⟩
  ·rw[hz]at hR hV
   unfold dh at hV
   unfold cI at hR
   (repeat' (first|(with_reducible first|refine aa hO ?_|refine aa hW ?_|refine aa hL ?_)|simp only[EVz,seval,↓reduceIte,EV6,EV7,hget,hne]|simp only[EVz,seval,↓reduceIte,EV6,EV7,hget]|(with_reducible intro blk hblk;(try(have hnx:=hblk;simp only[EVK]at hnx;first|(have hne:=AI hnx hne)|(have hne:=hnx))))|(with_reducible refine ae ?_ ?_)|(with_reducible refine af ?_)|(refine bz (e:=245) (L:=4) (n:=w) rfl rfl (by kernel_rfl) (by kernel_rfl) (by kernel_rfl) rfl hw4 ?_)|(refine aI hV ?_)|fail))
   all_goals exact RQ hR
  ·rw[hz]at hR hV
   unfold dh at hV
   unfold cI at hR
   (repeat' (first|(with_reducible first|refine aa hO ?_|refine aa hW ?_|refine aa hL ?_)|simp only[EVz,seval,↓reduceIte,EV6,EV7,hget,hne]|simp only[EVz,seval,↓reduceIte,EV6,EV7,hget]|(with_reducible intro blk hblk;(try(have hnx:=hblk;simp only[EVK]at hnx;first|(have hne:=AI hnx hne)|(have hne:=hnx))))|(with_reducible refine ae ?_ ?_)|(with_reducible refine af ?_)|(refine bz (e:=245) (L:=4) (n:=w) rfl rfl (by kernel_rfl) (by kernel_rfl) (by kernel_rfl) rfl hw4 ?_)|(refine aI hV ?_)|fail))
   all_goals exact RQ hR
 ·rw[if_pos h]at hR
  unfold cI at hR
  (repeat' (first|(with_reducible (refine ab (λh=>?_) (λh=>?_))<;>(try simp only[Da,Db,Dc,Dw,De,Df,Dg,Dh]at h))|(with_reducible first|refine aa hO ?_|refine aa hW ?_)|simp only[EVz,seval,↓reduceIte,EV6,EV7,hne]|simp only[EVz,seval,↓reduceIte,EV6,EV7]|(with_reducible intro blk hblk;(try(have hnx:=hblk;simp only[EVK]at hnx;first|(have hne:=AI hnx hne)|(have hne:=hnx))))|(with_reducible refine ae ?_ ?_)|(exfalso;omega)|fail))
  all_goals exact RQ hR
theorem under_eq (u:U) (i t:Idd):under u i t=(decide (t≠i)&&decide (i∈anc t u)):=by
 unfold under anc
 congr 1
 rw[Bool.eq_iff_iff,any_eq_true,decide_eq_true_eq,mem_reverse,mem_map]
 constructor
 ·rintro⟨y,hy,he⟩;exact⟨y,hy,of_decide_eq_true he⟩
 ·rintro⟨y,hy,he⟩;exact⟨y,hy,decide_eq_true he⟩
set_option maxHeartbeats 4000000 in
theorem f234 (u:U) (i t:Idd) (wh:Int) (hs:u.Short) (hN:u.flat.length<=1024) (hn:u.ids.Nodup) (hk:∀i q,aF i u=some q->q.2.2<1000000) (hki:∀q,spot u t wh=some q->q.2<1000000) (hi:i∈u.ids) (ht:t∈u.ids) (h0:0<=wh) (h3:wh<=3):
  Pure G Tryz.prog 234 [.agg u.cs,.agg i.cs,.agg t.cs,.int .i64 wh] (dh (dY u i t wh)):=by
 have hP:=f131 G i u hs hn
 have hA:=f214 G t u hs.1
 have hC:=f152 G (anc t u) i (by
  unfold anc
  rw[length_reverse,length_map,length_dropLast]
  have:=eF t u
  omega)
 have hL:=f273 G
 have hV:=lw G u t wh h0 h3 hs ht hn (hk t)
 have hun:=under_eq u i t
 unfold gW at hP
 unfold dY
 rw[hun]
 obtain⟨w,rfl⟩:=Int.eq_ofNat_of_zero_le h0
 have hw4:w<4:=by omega
 have hget:=nX w hw4
 obtain⟨f,hf⟩:∃f,leadV (w:Int)=f:=⟨_,rfl⟩
 rw[hf]at hV hget
 obtain⟨A,hAe⟩:∃A,anc t u=A:=⟨_,rfl⟩
 rw[hAe]at hA hC ⊢
 obtain⟨z,hz⟩:∃z,spot u t w=z:=⟨_,rfl⟩
 rw[hz]at hki hV ⊢
 have hko:=hk i
 obtain⟨y,hy⟩:∃y,aF i u=y:=⟨_,rfl⟩
 rw[hy]at hP hko ⊢
 clear hy hz hAe hf hun hk hn hN hs
 simp only[Idd.cs]at hV hC hA hP
 refine Pure.w c234 λR hR=>?_
 unfold s234 r234
 have hb:besides (w:Int)=(decide ((w:Int)=2)||decide ((w:Int)=3)):=by unfold besides;rw[Bool.decide_or]
 have hb3:(decide ((w:Int)=2)=true/\besides (w:Int)=true)\/(decide ((w:Int)=2)=false/\decide ((w:Int)=3)=true/\besides (w:Int)=true)\/(decide ((w:Int)=2)=false/\decide ((w:Int)=3)=false/\besides (w:Int)=false):=by
  rw[hb];cases decide ((w:Int)=2)<;>cases decide ((w:Int)=3)<;>simp
 rcases Classical.em (t=i)with hti|hti
 ·have e1:decide (t=i)=true:=decide_eq_true hti
  have e2:decide (t≠i)=false:=decide_eq_false (λh=>h hti)
  have e2':(!decide (t=i))=false:=by rw[e1];rfl
  rcases y with _|⟨own,d,j⟩
  ·rcases hb3 with⟨b1,b2⟩|⟨b1,b2,b3⟩|⟨b1,b2,b3⟩
   ·(repeat' (first|(with_reducible refine aa hP ?_)|simp only[EVz,seval,↓reduceIte,EV6,EV7,idd_eq,e1,e2,e2',b1,hne]|simp only[EVz,seval,↓reduceIte,EV6,EV7,idd_eq,e1,e2,e2',b1]|(with_reducible intro blk hblk;(try(have hnx:=hblk;simp only[EVK]at hnx;first|(have hne:=AI hnx hne)|(have hne:=hnx))))|fail))
    all_goals exact RQ hR
   ·(repeat' (first|(with_reducible refine aa hP ?_)|simp only[EVz,seval,↓reduceIte,EV6,EV7,idd_eq,e1,e2,e2',b1,b2,hne]|simp only[EVz,seval,↓reduceIte,EV6,EV7,idd_eq,e1,e2,e2',b1,b2]|(with_reducible intro blk hblk;(try(have hnx:=hblk;simp only[EVK]at hnx;first|(have hne:=AI hnx hne)|(have hne:=hnx))))|fail))
    all_goals exact RQ hR
   ·(repeat' (first|(with_reducible refine aa hP ?_)|simp only[EVz,seval,↓reduceIte,EV6,EV7,idd_eq,e1,e2,e2',b1,b2,hne]|simp only[EVz,seval,↓reduceIte,EV6,EV7,idd_eq,e1,e2,e2',b1,b2]|(with_reducible intro blk hblk;(try(have hnx:=hblk;simp only[EVK]at hnx;first|(have hne:=AI hnx hne)|(have hne:=hnx))))|fail))
    all_goals exact RQ hR
  ·simp only[e2,Bool.false_and,Bool.false_eq_true,false_or]at hR
   rcases hb3 with⟨b1,b2⟩|⟨b1,b2,b3⟩|⟨b1,b2,b3⟩
   ·rw[if_neg (by rw[b2];simp),if_pos hti]at hR
    (repeat' (first|(with_reducible refine aa hP ?_)|simp only[EVz,seval,↓reduceIte,EV6,EV7,idd_eq,e1,e2,e2',b1,hne]|simp only[EVz,seval,↓reduceIte,EV6,EV7,idd_eq,e1,e2,e2',b1]|(with_reducible intro blk hblk;(try(have hnx:=hblk;simp only[EVK]at hnx;first|(have hne:=AI hnx hne)|(have hne:=hnx))))|fail))
    all_goals exact RQ hR
   ·rw[if_neg (by rw[b3];simp),if_pos hti]at hR
    (repeat' (first|(with_reducible refine aa hP ?_)|simp only[EVz,seval,↓reduceIte,EV6,EV7,idd_eq,e1,e2,e2',b1,b2,hne]|simp only[EVz,seval,↓reduceIte,EV6,EV7,idd_eq,e1,e2,e2',b1,b2]|(with_reducible intro blk hblk;(try(have hnx:=hblk;simp only[EVK]at hnx;first|(have hne:=AI hnx hne)|(have hne:=hnx))))|fail))
    all_goals exact RQ hR
   ·rw[if_pos ⟨hti,b3⟩]at hR
    (repeat' (first|(with_reducible refine aa hP ?_)|simp only[EVz,seval,↓reduceIte,EV6,EV7,idd_eq,e1,e2,e2',b1,b2,hne]|simp only[EVz,seval,↓reduceIte,EV6,EV7,idd_eq,e1,e2,e2',b1,b2]|(with_reducible intro blk hblk;(try(have hnx:=hblk;simp only[EVK]at hnx;first|(have hne:=AI hnx hne)|(have hne:=hnx))))|fail))
    all_goals exact RQ hR
 ·have e1:decide (t=i)=false:=decide_eq_false hti
  have e2:decide (t≠i)=true:=decide_eq_true hti
  have e2':(!decide (t=i))=true:=by rw[e1];rfl
  rcases y with _|⟨own,d,j⟩
  ·obtain⟨bb,hbb⟩:∃bb,decide (i∈A)=bb:=⟨_,rfl⟩
   rw[hbb]at hC
   rcases hb3 with⟨b1,b2⟩|⟨b1,b2,b3⟩|⟨b1,b2,b3⟩
   ·(repeat' (first|(with_reducible first|refine aa hP ?_|refine aa hA ?_|refine aa hC ?_)|simp only[EVz,seval,↓reduceIte,EV6,EV7,idd_eq,e1,e2,e2',b1,hne]|simp only[EVz,seval,↓reduceIte,EV6,EV7,idd_eq,e1,e2,e2',b1]|(with_reducible intro blk hblk;(try(have hnx:=hblk;simp only[EVK]at hnx;first|(have hne:=AI hnx hne)|(have hne:=hnx))))|fail))
    all_goals exact RQ hR
   ·(repeat' (first|(with_reducible first|refine aa hP ?_|refine aa hA ?_|refine aa hC ?_)|simp only[EVz,seval,↓reduceIte,EV6,EV7,idd_eq,e1,e2,e2',b1,b2,hne]|simp only[EVz,seval,↓reduceIte,EV6,EV7,idd_eq,e1,e2,e2',b1,b2]|(with_reducible intro blk hblk;(try(have hnx:=hblk;simp only[EVK]at hnx;first|(have hne:=AI hnx hne)|(have hne:=hnx))))|fail))
    all_goals exact RQ hR
   ·(repeat' (first|(with_reducible first|refine aa hP ?_|refine aa hA ?_|refine aa hC ?_)|simp only[EVz,seval,↓reduceIte,EV6,EV7,idd_eq,e1,e2,e2',b1,b2,hne]|simp only[EVz,seval,↓reduceIte,EV6,EV7,idd_eq,e1,e2,e2',b1,b2]|(with_reducible intro blk hblk;(try(have hnx:=hblk;simp only[EVK]at hnx;first|(have hne:=AI hnx hne)|(have hne:=hnx))))|fail))
    all_goals exact RQ hR
  ·simp only[e2,Bool.true_and,hti,false_and,or_false,if_false]at hR
   cases hbb:decide (i∈A)with
   |true=>
    rw[hbb]at hC hR
    rw[if_pos rfl]at hR
    rcases hb3 with⟨b1,b2⟩|⟨b1,b2,b3⟩|⟨b1,b2,b3⟩
    ·(repeat' (first|(with_reducible first|refine aa hP ?_|refine aa hA ?_|refine aa hC ?_)|simp only[EVz,seval,↓reduceIte,EV6,EV7,idd_eq,e1,e2,e2',b1,hne]|simp only[EVz,seval,↓reduceIte,EV6,EV7,idd_eq,e1,e2,e2',b1]|(with_reducible intro blk hblk;(try(have hnx:=hblk;simp only[EVK]at hnx;first|(have hne:=AI hnx hne)|(have hne:=hnx))))|fail))
     all_goals exact RQ hR
    ·(repeat' (first|(with_reducible first|refine aa hP ?_|refine aa hA ?_|refine aa hC ?_)|simp only[EVz,seval,↓reduceIte,EV6,EV7,idd_eq,e1,e2,e2',b1,b2,hne]|simp only[EVz,seval,↓reduceIte,EV6,EV7,idd_eq,e1,e2,e2',b1,b2]|(with_reducible intro blk hblk;(try(have hnx:=hblk;simp only[EVK]at hnx;first|(have hne:=AI hnx hne)|(have hne:=hnx))))|fail))
     all_goals exact RQ hR
    ·(repeat' (first|(with_reducible first|refine aa hP ?_|refine aa hA ?_|refine aa hC ?_)|simp only[EVz,seval,↓reduceIte,EV6,EV7,idd_eq,e1,e2,e2',b1,b2,hne]|simp only[EVz,seval,↓reduceIte,EV6,EV7,idd_eq,e1,e2,e2',b1,b2]|(with_reducible intro blk hblk;(try(have hnx:=hblk;simp only[EVK]at hnx;first|(have hne:=AI hnx hne)|(have hne:=hnx))))|fail))
     all_goals exact RQ hR
   |false=>
    rw[hbb]at hC hR
    rw[if_neg (by simp)]at hR
    rcases z with _|⟨q,k⟩
    ·unfold dh at hV
     rcases hb3 with⟨b1,b2⟩|⟨b1,b2,b3⟩|⟨b1,b2,b3⟩
     ·(repeat' (first|(with_reducible first|refine aa hP ?_|refine aa hA ?_|refine aa hC ?_|refine aa hL ?_)|simp only[EVz,seval,↓reduceIte,EV6,EV7,idd_eq,e1,e2,e2',b1,hget,hne]|simp only[EVz,seval,↓reduceIte,EV6,EV7,idd_eq,e1,e2,e2',b1,hget]|(with_reducible intro blk hblk;(try(have hnx:=hblk;simp only[EVK]at hnx;first|(have hne:=AI hnx hne)|(have hne:=hnx))))|(with_reducible refine ae ?_ ?_)|(with_reducible refine af ?_)|(refine bz (e:=245) (L:=4) (n:=w) rfl rfl (by kernel_rfl) (by kernel_rfl) (by kernel_rfl) rfl hw4 ?_)|(refine aI hV ?_)|fail))
      all_goals exact RQ hR
     ·(repeat' (first|(with_reducible first|refine aa hP ?_|refine aa hA ?_|refine aa hC ?_|refine aa hL ?_)|simp only[EVz,seval,↓reduceIte,EV6,EV7,idd_eq,e1,e2,e2',b1,b2,hget,hne]|simp only[EVz,seval,↓reduceIte,EV6,EV7,idd_eq,e1,e2,e2',b1,b2,hget]|(with_reducible intro blk hblk;(try(have hnx:=hblk;simp only[EVK]at hnx;first|(have hne:=AI hnx hne)|(have hne:=hnx))))|(with_reducible refine ae ?_ ?_)|(with_reducible refine af ?_)|(refine bz (e:=245) (L:=4) (n:=w) rfl rfl (by kernel_rfl) (by kernel_rfl) (by kernel_rfl) rfl hw4 ?_)|(refine aI hV ?_)|fail))
      all_goals exact RQ hR
     ·(repeat' (first|(with_reducible first|refine aa hP ?_|refine aa hA ?_|refine aa hC ?_|refine aa hL ?_)|simp only[EVz,seval,↓reduceIte,EV6,EV7,idd_eq,e1,e2,e2',b1,b2,hget,hne]|simp only[EVz,seval,↓reduceIte,EV6,EV7,idd_eq,e1,e2,e2',b1,b2,hget]|(with_reducible intro blk hblk;(try(have hnx:=hblk;simp only[EVK]at hnx;first|(have hne:=AI hnx hne)|(have hne:=hnx))))|(with_reducible refine ae ?_ ?_)|(with_reducible refine af ?_)|(refine bz (e:=245) (L:=4) (n:=w) rfl rfl (by kernel_rfl) (by kernel_rfl) (by kernel_rfl) rfl hw4 ?_)|(refine aI hV ?_)|fail))
      all_goals exact RQ hR
    ·unfold dh at hV
     have hkk:=hki _ rfl
     simp only at hkk
     simp only[Option.map_some]at hR
     cases q1:decide (q=own.id)with
     |false=>
      have q1':=of_decide_eq_false q1
      rw[if_neg (λh=>q1' h.1)]at hR
      rcases hb3 with⟨b1,b2⟩|⟨b1,b2,b3⟩|⟨b1,b2,b3⟩
      ·(repeat' (first|(with_reducible first|refine aa hP ?_|refine aa hA ?_|refine aa hC ?_|refine aa hL ?_)|simp only[EVz,seval,↓reduceIte,EV6,EV7,idd_eq,e1,e2,e2',b1,hget,q1,hne]|simp only[EVz,seval,↓reduceIte,EV6,EV7,idd_eq,e1,e2,e2',b1,hget,q1]|(with_reducible intro blk hblk;(try(have hnx:=hblk;simp only[EVK]at hnx;first|(have hne:=AI hnx hne)|(have hne:=hnx))))|(with_reducible refine ae ?_ ?_)|(with_reducible refine af ?_)|(refine bz (e:=245) (L:=4) (n:=w) rfl rfl (by kernel_rfl) (by kernel_rfl) (by kernel_rfl) rfl hw4 ?_)|(refine aI hV ?_)|fail))
       all_goals exact RQ hR
      ·(repeat' (first|(with_reducible first|refine aa hP ?_|refine aa hA ?_|refine aa hC ?_|refine aa hL ?_)|simp only[EVz,seval,↓reduceIte,EV6,EV7,idd_eq,e1,e2,e2',b1,b2,hget,q1,hne]|simp only[EVz,seval,↓reduceIte,EV6,EV7,idd_eq,e1,e2,e2',b1,b2,hget,q1]|(with_reducible intro blk hblk;(try(have hnx:=hblk;simp only[EVK]at hnx;first|(have hne:=AI hnx hne)|(have hne:=hnx))))|(with_reducible refine ae ?_ ?_)|(with_reducible refine af ?_)|(refine bz (e:=245) (L:=4) (n:=w) rfl rfl (by kernel_rfl) (by kernel_rfl) (by kernel_rfl) rfl hw4 ?_)|(refine aI hV ?_)|fail))
       all_goals exact RQ hR
      ·(repeat' (first|(with_reducible first|refine aa hP ?_|refine aa hA ?_|refine aa hC ?_|refine aa hL ?_)|simp only[EVz,seval,↓reduceIte,EV6,EV7,idd_eq,e1,e2,e2',b1,b2,hget,q1,hne]|simp only[EVz,seval,↓reduceIte,EV6,EV7,idd_eq,e1,e2,e2',b1,b2,hget,q1]|(with_reducible intro blk hblk;(try(have hnx:=hblk;simp only[EVK]at hnx;first|(have hne:=AI hnx hne)|(have hne:=hnx))))|(with_reducible refine ae ?_ ?_)|(with_reducible refine af ?_)|(refine bz (e:=245) (L:=4) (n:=w) rfl rfl (by kernel_rfl) (by kernel_rfl) (by kernel_rfl) rfl hw4 ?_)|(refine aI hV ?_)|fail))
       all_goals exact RQ hR
     |true=>
      have q1':=of_decide_eq_true q1
      cases q2:decide ((j:Int)<(k:Int))with
      |false=>
       have q2':=of_decide_eq_false q2
       rw[if_neg (λh=>q2' (by omega))]at hR
       rcases hb3 with⟨b1,b2⟩|⟨b1,b2,b3⟩|⟨b1,b2,b3⟩
       ·(repeat' (first|(with_reducible first|refine aa hP ?_|refine aa hA ?_|refine aa hC ?_|refine aa hL ?_)|simp only[EVz,seval,↓reduceIte,EV6,EV7,idd_eq,e1,e2,e2',b1,hget,q1,q2,hne]|simp only[EVz,seval,↓reduceIte,EV6,EV7,idd_eq,e1,e2,e2',b1,hget,q1,q2]|(with_reducible intro blk hblk;(try(have hnx:=hblk;simp only[EVK]at hnx;first|(have hne:=AI hnx hne)|(have hne:=hnx))))|(with_reducible refine ae ?_ ?_)|(with_reducible refine af ?_)|(refine bz (e:=245) (L:=4) (n:=w) rfl rfl (by kernel_rfl) (by kernel_rfl) (by kernel_rfl) rfl hw4 ?_)|(refine aI hV ?_)|fail))
        all_goals exact RQ hR
       ·(repeat' (first|(with_reducible first|refine aa hP ?_|refine aa hA ?_|refine aa hC ?_|refine aa hL ?_)|simp only[EVz,seval,↓reduceIte,EV6,EV7,idd_eq,e1,e2,e2',b1,b2,hget,q1,q2,hne]|simp only[EVz,seval,↓reduceIte,EV6,EV7,idd_eq,e1,e2,e2',b1,b2,hget,q1,q2]|(with_reducible intro blk hblk;(try(have hnx:=hblk;simp only[EVK]at hnx;first|(have hne:=AI hnx hne)|(have hne:=hnx))))|(with_reducible refine ae ?_ ?_)|(with_reducible refine af ?_)|(refine bz (e:=245) (L:=4) (n:=w) rfl rfl (by kernel_rfl) (by kernel_rfl) (by kernel_rfl) rfl hw4 ?_)|(refine aI hV ?_)|fail))
        all_goals exact RQ hR
       ·(repeat' (first|(with_reducible first|refine aa hP ?_|refine aa hA ?_|refine aa hC ?_|refine aa hL ?_)|simp only[EVz,seval,↓reduceIte,EV6,EV7,idd_eq,e1,e2,e2',b1,b2,hget,q1,q2,hne]|simp only[EVz,seval,↓reduceIte,EV6,EV7,idd_eq,e1,e2,e2',b1,b2,hget,q1,q2]|(with_reducible intro blk hblk;(try(have hnx:=hblk;simp only[EVK]at hnx;first|(have hne:=AI hnx hne)|(have hne:=hnx))))|(with_reducible refine ae ?_ ?_)|(with_reducible refine af ?_)|(refine bz (e:=245) (L:=4) (n:=w) rfl rfl (by kernel_rfl) (by kernel_rfl) (by kernel_rfl) rfl hw4 ?_)|(refine aI hV ?_)|fail))
        all_goals exact RQ hR
      |true=>
       have q2':=of_decide_eq_true q2
       rw[if_pos ⟨q1',by omega⟩]at hR
       have ew:IntKind.i64.wrap ((k:Int)-1)=((k-1:Nat):Int):=by rw[aA (by omega) (by omega)];omega
       rcases hb3 with⟨b1,b2⟩|⟨b1,b2,b3⟩|⟨b1,b2,b3⟩
       ·(repeat' (first|(with_reducible first|refine aa hP ?_|refine aa hA ?_|refine aa hC ?_|refine aa hL ?_)|simp only[EVz,seval,↓reduceIte,EV6,EV7,idd_eq,e1,e2,e2',b1,hget,q1,q2,ew,hne]|simp only[EVz,seval,↓reduceIte,EV6,EV7,idd_eq,e1,e2,e2',b1,hget,q1,q2,ew]|(with_reducible intro blk hblk;(try(have hnx:=hblk;simp only[EVK]at hnx;first|(have hne:=AI hnx hne)|(have hne:=hnx))))|(with_reducible refine ae ?_ ?_)|(with_reducible refine af ?_)|(refine bz (e:=245) (L:=4) (n:=w) rfl rfl (by kernel_rfl) (by kernel_rfl) (by kernel_rfl) rfl hw4 ?_)|(refine aI hV ?_)|fail))
        all_goals exact RQ hR
       ·(repeat' (first|(with_reducible first|refine aa hP ?_|refine aa hA ?_|refine aa hC ?_|refine aa hL ?_)|simp only[EVz,seval,↓reduceIte,EV6,EV7,idd_eq,e1,e2,e2',b1,b2,hget,q1,q2,ew,hne]|simp only[EVz,seval,↓reduceIte,EV6,EV7,idd_eq,e1,e2,e2',b1,b2,hget,q1,q2,ew]|(with_reducible intro blk hblk;(try(have hnx:=hblk;simp only[EVK]at hnx;first|(have hne:=AI hnx hne)|(have hne:=hnx))))|(with_reducible refine ae ?_ ?_)|(with_reducible refine af ?_)|(refine bz (e:=245) (L:=4) (n:=w) rfl rfl (by kernel_rfl) (by kernel_rfl) (by kernel_rfl) rfl hw4 ?_)|(refine aI hV ?_)|fail))
        all_goals exact RQ hR
       ·(repeat' (first|(with_reducible first|refine aa hP ?_|refine aa hA ?_|refine aa hC ?_|refine aa hL ?_)|simp only[EVz,seval,↓reduceIte,EV6,EV7,idd_eq,e1,e2,e2',b1,b2,hget,q1,q2,ew,hne]|simp only[EVz,seval,↓reduceIte,EV6,EV7,idd_eq,e1,e2,e2',b1,b2,hget,q1,q2,ew]|(with_reducible intro blk hblk;(try(have hnx:=hblk;simp only[EVK]at hnx;first|(have hne:=AI hnx hne)|(have hne:=hnx))))|(with_reducible refine ae ?_ ?_)|(with_reducible refine af ?_)|(refine bz (e:=245) (L:=4) (n:=w) rfl rfl (by kernel_rfl) (by kernel_rfl) (by kernel_rfl) rfl hw4 ?_)|(refine aI hV ?_)|fail))
        all_goals exact RQ hR
end
theorem dest_ins (u:U) (x:Itm) (h:x.kind=0):dest u x=insPt u x.at_ x.wh:=by
 unfold dest insPt
 split
 ·rfl
 ·rfl
section
variable (G:Glob)
set_option maxHeartbeats 4000000 in
theorem f144 (u:U) (x:Itm) (hs:u.Short) (hN:u.flat.length<=1024) (hn:u.ids.Nodup) (hk:∀i q,aF i u=some q->q.2.2<1000000) (hki:∀i w q,spot u i w=some q->q.2<1000000) (hk0:x.kind=0\/x.kind=6) (h0:0<=x.wh) (h3:x.wh<=3) (hp:x.at_.length<1000000) (hp2:x.to_.length<1000000):
  Pure G Tryz.prog 144 [.agg u.cs,.agg x.cs] (cI (dest u x)):=by
 have hO:=f43 G u x.at_ hs.1 hN hp
 have hO2:=f43 G u x.to_ hs.1 hN hp2
 have hI:=f232 G u x.at_ x.wh hs hN hn hk hp h0 h3
 have hW:=f233 G x.wh
 have e1:inR x.wh 0 3=true:=by simp[inR];omega
 rw[e1]at hW
 rw[Itm.cs_eq x]
 refine Pure.w c144 λR hR=>?_
 unfold s144 r144
 rcases hk0 with h|h
 ·rw[dest_ins u x h]at hR
  have e2:decide (x.kind=0)=true:=decide_eq_true h
  obtain⟨z,hz⟩:∃z,insPt u x.at_ x.wh=z:=⟨_,rfl⟩
  rw[hz]at hI hR
  unfold cI at hI hR
  rcases z with⟨q,k⟩|e
  ·(repeat' (first|(with_reducible refine aa hI ?_)|simp only[EVz,seval,↓reduceIte,EV6,EV7,e2,hne]|simp only[EVz,seval,↓reduceIte,EV6,EV7,e2]|(with_reducible intro blk hblk;(try(have hnx:=hblk;simp only[EVK]at hnx;(have hne:=hnx))))|fail))
   all_goals exact RQ hR
  ·(repeat' (first|(with_reducible refine aa hI ?_)|simp only[EVz,seval,↓reduceIte,EV6,EV7,e2,hne]|simp only[EVz,seval,↓reduceIte,EV6,EV7,e2]|(with_reducible intro blk hblk;(try(have hnx:=hblk;simp only[EVK]at hnx;(have hne:=hnx))))|fail))
   all_goals exact RQ hR
 ·have e2:decide (x.kind=0)=false:=decide_eq_false (by omega)
  have e3:decide (x.kind=6)=true:=decide_eq_true h
  have e3':decide (x.kind≠6)=false:=decide_eq_false (by omega)
  unfold lH at hO hO2
  unfold dest at hR
  rw[if_neg (show ¬x.kind=0 by omega)]at hR
  have hid:=bZ (u:=u) (p:=x.at_)
  have hid2:=bZ (u:=u) (p:=x.to_)
  obtain⟨⟨i,e⟩,hie⟩:∃z,one u x.at_=z:=⟨_,rfl⟩
  obtain⟨⟨t,e'⟩,hie'⟩:∃z,one u x.to_=z:=⟨_,rfl⟩
  rw[hie]at hO hid hR
  rw[hie']at hO2 hid2 hR
  simp only at hO hO2 hid hid2 hR
  rcases Classical.em (e=0)with g|g
  ·subst g
   rw[if_neg (by simp)]at hR
   rcases Classical.em (e'=0)with g'|g'
   ·subst g'
    rw[if_neg (by simp)]at hR
    have hGo:=f234 G u i t x.wh hs hN hn hk (hki t x.wh) (hid rfl) (hid2 rfl) h0 h3
    simp only[Idd.cs]at hGo
    obtain⟨z,hz⟩:∃z,dY u i t x.wh=z:=⟨_,rfl⟩
    rw[hz]at hGo hR
    unfold dh at hGo
    unfold cI at hR
    rcases z with _|⟨q,k⟩
    ·(repeat' (first|(with_reducible first|refine aa hO ?_|refine aa hO2 ?_|refine aa hW ?_|refine aa hGo ?_)|simp only[EVz,seval,↓reduceIte,EV6,EV7,e2,e3,e3',hne]|simp only[EVz,seval,↓reduceIte,EV6,EV7,e2,e3,e3']|(with_reducible intro blk hblk;(try(have hnx:=hblk;simp only[EVK]at hnx;first|(have hne:=AI hnx hne)|(have hne:=hnx))))|fail))
     all_goals exact RQ hR
    ·(repeat' (first|(with_reducible first|refine aa hO ?_|refine aa hO2 ?_|refine aa hW ?_|refine aa hGo ?_)|simp only[EVz,seval,↓reduceIte,EV6,EV7,e2,e3,e3',hne]|simp only[EVz,seval,↓reduceIte,EV6,EV7,e2,e3,e3']|(with_reducible intro blk hblk;(try(have hnx:=hblk;simp only[EVK]at hnx;first|(have hne:=AI hnx hne)|(have hne:=hnx))))|(with_reducible refine ae ?_ ?_)|(with_reducible refine af ?_)|fail))
     all_goals exact RQ hR
   ·rw[if_pos g']at hR
    have g2:decide (e'=0)=false:=decide_eq_false g'
    unfold cI at hR
    (repeat' (first|(with_reducible (refine ab (λh=>?_) (λh=>?_))<;>(try simp only[Da,Db,Dc,Dw,De,Df,Dg,Dh]at h))|(with_reducible first|refine aa hO ?_|refine aa hO2 ?_|refine aa hW ?_)|simp only[EVz,seval,↓reduceIte,EV6,EV7,e2,e3,e3',g',hne]|simp only[EVz,seval,↓reduceIte,EV6,EV7,e2,e3,e3',g']|(with_reducible intro blk hblk;(try(have hnx:=hblk;simp only[EVK]at hnx;first|(have hne:=AI hnx hne)|(have hne:=hnx))))|(exfalso;omega)|fail))
    all_goals exact RQ hR
  ·rw[if_pos g]at hR
   unfold cI at hR
   (repeat' (first|(with_reducible (refine ab (λh=>?_) (λh=>?_))<;>(try simp only[Da,Db,Dc,Dw,De,Df,Dg,Dh]at h))|(with_reducible first|refine aa hO ?_|refine aa hW ?_)|simp only[EVz,seval,↓reduceIte,EV6,EV7,e2,e3,e3',g,hne]|simp only[EVz,seval,↓reduceIte,EV6,EV7,e2,e3,e3',g]|(with_reducible intro blk hblk;(try(have hnx:=hblk;simp only[EVK]at hnx;first|(have hne:=AI hnx hne)|(have hne:=hnx))))|(exfalso;omega)|fail))
   all_goals exact RQ hR
end
end Go.Av
