/-
  ENACT, M23: the position that an address and a Where denote, and where a unit goes.
-/
import Derived.Test.YtppjieiiibgagaaGreatDoorWXM21toXU3
set_option linter.all false
namespace Go.Av
open Go Go.RowKit Go.Proofs List
def insPt (u:U) (p:List Stp) (wh:Int):(Idd×Nat) ⊕ Int:=
 if (one u p).2≠0 then .inr (one u p).2 else match spot u (one u p).1 wh with|none=>.inr 9|some q=>.inl q
section
variable (G:Glob)
set_option maxHeartbeats 4000000 in
def f301 (u:U) (p:List Stp) (wh:Int) (hs:u.Short) (hN:u.flat.length<=1024) (hn:u.ids.Nodup) (hk:∀i q,aL i u=some q->q.2.2<1000000) (hp:p.length<1000000) (Y:0<=wh) (h3:wh<=3):
  Pure G Tryz.prog 301 [.agg u.cs,.lst 2 (p.map Stp.cs),.i wh] (cX (insPt u p wh)):=by
 obtain⟨w,rfl⟩:=Int.eq_ofNat_of_zero_le Y
 have N:w<4:=by omega
 have O:=f26 G u p hs.1 hN hp
 have V:=f302 G (w:Int)
 have Z:=f347 G
 have e1:inR (w:Int) 0 3=true:=by simp[inR];omega
 rw[e1]at V
 unfold gQ at O
 have hid:=bH (u:=u) (p:=p)
 unfold insPt
 obtain⟨⟨i,e⟩,X⟩:∃z,one u p=z:=⟨_,rfl⟩
 rw[X]at O hid ⊢
 simp only at O hid ⊢
 refine Pure.w c301 λR J=>?_
 unfold s301 r301
 rcases Classical.em (e=0)with h|h
 ·subst h
  have M:=na G u i w Y h3 hs (hid rfl) hn (hk i);have I:=pr w N;simp only[Idd.cs]at M;rw[if_neg (by simp)]at J;obtain⟨f,hf⟩:∃f,leadV (w:Int)=f:=⟨_,rfl⟩;rw[hf]at M I
  rcases hz:spot u i w with _|⟨q,k⟩
  ·rw[hz]at J M;unfold dz at M;unfold cX at J;(repeat' (first|(with_reducible first|refine ab O ?_|refine ab V ?_|refine ab Z ?_)|simp only[EV,seval,I,D]|simp only[EV,seval,I]|(with_reducible intro T F;(try(have E:=F;simp only[EVK]at E;first|(have D:=AI E D)|(have D:=E))))|(with_reducible first|refine af ?_ ?_|refine ag ?_)|(refine bD (e:=284) (L:=4) (n:=w) rfl rfl (by kernel_rfl) (by kernel_rfl) (by kernel_rfl) rfl N ?_)|(refine aP M ?_)))
   all_goals exact RQ J
  ·rw[hz]at J M;unfold dz at M;unfold cX at J;(repeat' (first|(with_reducible first|refine ab O ?_|refine ab V ?_|refine ab Z ?_)|simp only[EV,seval,I,D]|simp only[EV,seval,I]|(with_reducible intro T F;(try(have E:=F;simp only[EVK]at E;first|(have D:=AI E D)|(have D:=E))))|(with_reducible first|refine af ?_ ?_|refine ag ?_)|(refine bD (e:=284) (L:=4) (n:=w) rfl rfl (by kernel_rfl) (by kernel_rfl) (by kernel_rfl) rfl N ?_)|(refine aP M ?_)))
   all_goals exact RQ J
 ·rw[if_pos h]at J
  unfold cX at J;(repeat' (first|(with_reducible (refine ae (λh=>?_) λh=>?_)<;>(try simp only[DZ]at h))|(with_reducible first|refine ab O ?_|refine ab V ?_)|simp only[EV,seval,D]|simp only[EV,seval]|(with_reducible intro T F;(try(have E:=F;simp only[EVK]at E;first|(have D:=AI E D)|(have D:=E))))|(with_reducible refine af ?_ ?_)|(exfalso;omega)))
  all_goals exact RQ J
def under_eq (u:U) (i t:Idd):kw u i t=(decide (t≠i)&&decide (i∈anc t u)):=by
 unfold kw anc;congr 1;rw[Bool.eq_iff_iff,any_eq_true,decide_eq_true_eq,mem_reverse,mem_map];constructor
 ·rintro⟨y,E,D⟩;exact⟨y,E,of_decide_eq_true D⟩
 ·rintro⟨y,E,D⟩;exact⟨y,E,decide_eq_true D⟩
set_option maxHeartbeats 4000000 in
def f303 (u:U) (i t:Idd) (wh:Int) (hs:u.Short) (hN:u.flat.length<=1024) (hn:u.ids.Nodup) (hk:∀i q,aL i u=some q->q.2.2<1000000) (al:∀q,spot u t wh=some q->q.2<1000000) (hi:i∈u.ids) (ht:t∈u.ids) (h0:0<=wh) (h3:wh<=3):
  Pure G Tryz.prog 303 [.agg u.cs,.agg i.cs,.agg t.cs,.i wh] (dz (eu u i t wh)):=by
 have Y:=f135 G i u hs hn
 have hA:=f288 G t u hs.1
 have hC:=f214 G (anc t u) i (by
  unfold anc
  rw[length_reverse,length_map,length_dropLast]
  have:=ee t u
  omega)
 have hL:=f347 G
 have hV:=na G u t wh h0 h3 hs ht hn (hk t)
 have an:=under_eq u i t
 unfold jK at Y
 unfold eu
 rw[an]
 obtain⟨w,rfl⟩:=Int.eq_ofNat_of_zero_le h0
 have Z:w<4:=by omega
 have J:=pr w Z
 obtain⟨f,hf⟩:∃f,leadV (w:Int)=f:=⟨_,rfl⟩
 rw[hf]at hV J
 obtain⟨A,ah⟩:∃A,anc t u=A:=⟨_,rfl⟩
 rw[ah]at hA hC ⊢
 obtain⟨z,hz⟩:∃z,spot u t w=z:=⟨_,rfl⟩
 rw[hz]at al hV ⊢
 have be:=hk i
 obtain⟨y,hy⟩:∃y,aL i u=y:=⟨_,rfl⟩
 rw[hy]at Y be ⊢
 clear hy hz ah hf an hk hn hN hs
 simp only[Idd.cs]at hV hC hA Y
 refine Pure.w c303 λR X=>?_
 unfold s303 r303
 have hb:besides (w:Int)=(decide ((w:Int)=2)||decide ((w:Int)=3)):=by unfold besides;rw[Bool.decide_or]
 have aa:(decide ((w:Int)=2)=true/\besides (w:Int)=true)\/(decide ((w:Int)=2)=false/\decide ((w:Int)=3)=true/\besides (w:Int)=true)\/(decide ((w:Int)=2)=false/\decide ((w:Int)=3)=false/\besides (w:Int)=false):=by
  rw[hb];cases decide ((w:Int)=2)<;>cases decide ((w:Int)=3)<;>simp
 rcases Classical.em (t=i)with hti|hti
 ·have O:decide (t=i)=true:=decide_eq_true hti
  have T:decide (t≠i)=false:=decide_eq_false (λh=>h hti)
  have I:(!decide (t=i))=false:=by rw[O];rfl
  rcases y with _|⟨own,d,j⟩
  ·rcases aa with⟨M,N⟩|⟨M,N,b3⟩|⟨M,N,b3⟩
   ·(repeat' (first|(with_reducible refine ab Y ?_)|simp only[EV,seval,am,O,T,I,M,D]|simp only[EV,seval,am,O,T,I,M]|(with_reducible intro V F;(try(have E:=F;simp only[EVK]at E;first|(have D:=AI E D)|(have D:=E))))))
    all_goals exact RQ X
   ·(repeat' (first|(with_reducible refine ab Y ?_)|simp only[EV,seval,am,O,T,I,M,N,D]|simp only[EV,seval,am,O,T,I,M,N]|(with_reducible intro V F;(try(have E:=F;simp only[EVK]at E;first|(have D:=AI E D)|(have D:=E))))))
    all_goals exact RQ X
   ·(repeat' (first|(with_reducible refine ab Y ?_)|simp only[EV,seval,am,O,T,I,M,N,D]|simp only[EV,seval,am,O,T,I,M,N]|(with_reducible intro V F;(try(have E:=F;simp only[EVK]at E;first|(have D:=AI E D)|(have D:=E))))))
    all_goals exact RQ X
  ·simp only[T,Bool.false_and,Bool.false_eq_true,false_or]at X
   rcases aa with⟨M,N⟩|⟨M,N,b3⟩|⟨M,N,b3⟩
   ·rw[if_neg (by rw[N];simp),if_pos hti]at X;(repeat' (first|(with_reducible refine ab Y ?_)|simp only[EV,seval,am,O,T,I,M,D]|simp only[EV,seval,am,O,T,I,M]|(with_reducible intro V F;(try(have E:=F;simp only[EVK]at E;first|(have D:=AI E D)|(have D:=E))))))
    all_goals exact RQ X
   ·rw[if_neg (by rw[b3];simp),if_pos hti]at X;(repeat' (first|(with_reducible refine ab Y ?_)|simp only[EV,seval,am,O,T,I,M,N,D]|simp only[EV,seval,am,O,T,I,M,N]|(with_reducible intro V F;(try(have E:=F;simp only[EVK]at E;first|(have D:=AI E D)|(have D:=E))))))
    all_goals exact RQ X
   ·rw[if_pos ⟨hti,b3⟩]at X;(repeat' (first|(with_reducible refine ab Y ?_)|simp only[EV,seval,am,O,T,I,M,N,D]|simp only[EV,seval,am,O,T,I,M,N]|(with_reducible intro V F;(try(have E:=F;simp only[EVK]at E;first|(have D:=AI E D)|(have D:=E))))))
    all_goals exact RQ X
 ·have O:decide (t=i)=false:=decide_eq_false hti
  have T:decide (t≠i)=true:=decide_eq_true hti
  have I:(!decide (t=i))=true:=by rw[O];rfl
  rcases y with _|⟨own,d,j⟩
  ·obtain⟨bb,ac⟩:∃bb,decide (i∈A)=bb:=⟨_,rfl⟩;rw[ac]at hC
   rcases aa with⟨M,N⟩|⟨M,N,b3⟩|⟨M,N,b3⟩
   ·(repeat' (first|(with_reducible first|refine ab Y ?_|refine ab hA ?_|refine ab hC ?_)|simp only[EV,seval,am,O,T,I,M,D]|simp only[EV,seval,am,O,T,I,M]|(with_reducible intro V F;(try(have E:=F;simp only[EVK]at E;first|(have D:=AI E D)|(have D:=E))))))
    all_goals exact RQ X
   ·(repeat' (first|(with_reducible first|refine ab Y ?_|refine ab hA ?_|refine ab hC ?_)|simp only[EV,seval,am,O,T,I,M,N,D]|simp only[EV,seval,am,O,T,I,M,N]|(with_reducible intro V F;(try(have E:=F;simp only[EVK]at E;first|(have D:=AI E D)|(have D:=E))))))
    all_goals exact RQ X
   ·(repeat' (first|(with_reducible first|refine ab Y ?_|refine ab hA ?_|refine ab hC ?_)|simp only[EV,seval,am,O,T,I,M,N,D]|simp only[EV,seval,am,O,T,I,M,N]|(with_reducible intro V F;(try(have E:=F;simp only[EVK]at E;first|(have D:=AI E D)|(have D:=E))))))
    all_goals exact RQ X
  ·simp only[T,Bool.true_and,hti,false_and,or_false,if_false]at X
   cases ac:decide (i∈A)with
   |true=>
    rw[ac]at hC X;rw[if_pos rfl]at X
    rcases aa with⟨M,N⟩|⟨M,N,b3⟩|⟨M,N,b3⟩
    ·(repeat' (first|(with_reducible first|refine ab Y ?_|refine ab hA ?_|refine ab hC ?_)|simp only[EV,seval,am,O,T,I,M,D]|simp only[EV,seval,am,O,T,I,M]|(with_reducible intro V F;(try(have E:=F;simp only[EVK]at E;first|(have D:=AI E D)|(have D:=E))))))
     all_goals exact RQ X
    ·(repeat' (first|(with_reducible first|refine ab Y ?_|refine ab hA ?_|refine ab hC ?_)|simp only[EV,seval,am,O,T,I,M,N,D]|simp only[EV,seval,am,O,T,I,M,N]|(with_reducible intro V F;(try(have E:=F;simp only[EVK]at E;first|(have D:=AI E D)|(have D:=E))))))
     all_goals exact RQ X
    ·(repeat' (first|(with_reducible first|refine ab Y ?_|refine ab hA ?_|refine ab hC ?_)|simp only[EV,seval,am,O,T,I,M,N,D]|simp only[EV,seval,am,O,T,I,M,N]|(with_reducible intro V F;(try(have E:=F;simp only[EVK]at E;first|(have D:=AI E D)|(have D:=E))))))
     all_goals exact RQ X
   |false=>
    rw[ac]at hC X;rw[if_neg (by simp)]at X
    rcases z with _|⟨q,k⟩
    ·unfold dz at hV
     rcases aa with⟨M,N⟩|⟨M,N,b3⟩|⟨M,N,b3⟩
     ·(repeat' (first|(with_reducible first|refine ab Y ?_|refine ab hA ?_|refine ab hC ?_|refine ab hL ?_)|simp only[EV,seval,am,O,T,I,M,J,D]|simp only[EV,seval,am,O,T,I,M,J]|(with_reducible intro V F;(try(have E:=F;simp only[EVK]at E;first|(have D:=AI E D)|(have D:=E))))|(with_reducible first|refine af ?_ ?_|refine ag ?_)|(refine bD (e:=284) (L:=4) (n:=w) rfl rfl (by kernel_rfl) (by kernel_rfl) (by kernel_rfl) rfl Z ?_)|(refine aP hV ?_)))
      all_goals exact RQ X
     ·(repeat' (first|(with_reducible first|refine ab Y ?_|refine ab hA ?_|refine ab hC ?_|refine ab hL ?_)|simp only[EV,seval,am,O,T,I,M,N,J,D]|simp only[EV,seval,am,O,T,I,M,N,J]|(with_reducible intro V F;(try(have E:=F;simp only[EVK]at E;first|(have D:=AI E D)|(have D:=E))))|(with_reducible first|refine af ?_ ?_|refine ag ?_)|(refine bD (e:=284) (L:=4) (n:=w) rfl rfl (by kernel_rfl) (by kernel_rfl) (by kernel_rfl) rfl Z ?_)|(refine aP hV ?_)))
      all_goals exact RQ X
     ·(repeat' (first|(with_reducible first|refine ab Y ?_|refine ab hA ?_|refine ab hC ?_|refine ab hL ?_)|simp only[EV,seval,am,O,T,I,M,N,J,D]|simp only[EV,seval,am,O,T,I,M,N,J]|(with_reducible intro V F;(try(have E:=F;simp only[EVK]at E;first|(have D:=AI E D)|(have D:=E))))|(with_reducible first|refine af ?_ ?_|refine ag ?_)|(refine bD (e:=284) (L:=4) (n:=w) rfl rfl (by kernel_rfl) (by kernel_rfl) (by kernel_rfl) rfl Z ?_)|(refine aP hV ?_)))
      all_goals exact RQ X
    ·unfold dz at hV;have bd:=al _ rfl;simp only at bd;simp only[Option.map_some]at X
     cases q1:decide (q=own.id)with
     |false=>
      have ad:=of_decide_eq_false q1;rw[if_neg (λh=>ad h.1)]at X
      rcases aa with⟨M,N⟩|⟨M,N,b3⟩|⟨M,N,b3⟩
      ·(repeat' (first|(with_reducible first|refine ab Y ?_|refine ab hA ?_|refine ab hC ?_|refine ab hL ?_)|simp only[EV,seval,am,O,T,I,M,J,q1,D]|simp only[EV,seval,am,O,T,I,M,J,q1]|(with_reducible intro V F;(try(have E:=F;simp only[EVK]at E;first|(have D:=AI E D)|(have D:=E))))|(with_reducible first|refine af ?_ ?_|refine ag ?_)|(refine bD (e:=284) (L:=4) (n:=w) rfl rfl (by kernel_rfl) (by kernel_rfl) (by kernel_rfl) rfl Z ?_)|(refine aP hV ?_)))
       all_goals exact RQ X
      ·(repeat' (first|(with_reducible first|refine ab Y ?_|refine ab hA ?_|refine ab hC ?_|refine ab hL ?_)|simp only[EV,seval,am,O,T,I,M,N,J,q1,D]|simp only[EV,seval,am,O,T,I,M,N,J,q1]|(with_reducible intro V F;(try(have E:=F;simp only[EVK]at E;first|(have D:=AI E D)|(have D:=E))))|(with_reducible first|refine af ?_ ?_|refine ag ?_)|(refine bD (e:=284) (L:=4) (n:=w) rfl rfl (by kernel_rfl) (by kernel_rfl) (by kernel_rfl) rfl Z ?_)|(refine aP hV ?_)))
       all_goals exact RQ X
      ·(repeat' (first|(with_reducible first|refine ab Y ?_|refine ab hA ?_|refine ab hC ?_|refine ab hL ?_)|simp only[EV,seval,am,O,T,I,M,N,J,q1,D]|simp only[EV,seval,am,O,T,I,M,N,J,q1]|(with_reducible intro V F;(try(have E:=F;simp only[EVK]at E;first|(have D:=AI E D)|(have D:=E))))|(with_reducible first|refine af ?_ ?_|refine ag ?_)|(refine bD (e:=284) (L:=4) (n:=w) rfl rfl (by kernel_rfl) (by kernel_rfl) (by kernel_rfl) rfl Z ?_)|(refine aP hV ?_)))
       all_goals exact RQ X
     |true=>
      have ad:=of_decide_eq_true q1
      cases q2:decide ((j:Int)<(k:Int))with
      |false=>
       have aw:=of_decide_eq_false q2;rw[if_neg (λh=>aw (by omega))]at X
       rcases aa with⟨M,N⟩|⟨M,N,b3⟩|⟨M,N,b3⟩
       ·(repeat' (first|(with_reducible first|refine ab Y ?_|refine ab hA ?_|refine ab hC ?_|refine ab hL ?_)|simp only[EV,seval,am,O,T,I,M,J,q1,q2,D]|simp only[EV,seval,am,O,T,I,M,J,q1,q2]|(with_reducible intro V F;(try(have E:=F;simp only[EVK]at E;first|(have D:=AI E D)|(have D:=E))))|(with_reducible first|refine af ?_ ?_|refine ag ?_)|(refine bD (e:=284) (L:=4) (n:=w) rfl rfl (by kernel_rfl) (by kernel_rfl) (by kernel_rfl) rfl Z ?_)|(refine aP hV ?_)))
        all_goals exact RQ X
       ·(repeat' (first|(with_reducible first|refine ab Y ?_|refine ab hA ?_|refine ab hC ?_|refine ab hL ?_)|simp only[EV,seval,am,O,T,I,M,N,J,q1,q2,D]|simp only[EV,seval,am,O,T,I,M,N,J,q1,q2]|(with_reducible intro V F;(try(have E:=F;simp only[EVK]at E;first|(have D:=AI E D)|(have D:=E))))|(with_reducible first|refine af ?_ ?_|refine ag ?_)|(refine bD (e:=284) (L:=4) (n:=w) rfl rfl (by kernel_rfl) (by kernel_rfl) (by kernel_rfl) rfl Z ?_)|(refine aP hV ?_)))
        all_goals exact RQ X
       ·(repeat' (first|(with_reducible first|refine ab Y ?_|refine ab hA ?_|refine ab hC ?_|refine ab hL ?_)|simp only[EV,seval,am,O,T,I,M,N,J,q1,q2,D]|simp only[EV,seval,am,O,T,I,M,N,J,q1,q2]|(with_reducible intro V F;(try(have E:=F;simp only[EVK]at E;first|(have D:=AI E D)|(have D:=E))))|(with_reducible first|refine af ?_ ?_|refine ag ?_)|(refine bD (e:=284) (L:=4) (n:=w) rfl rfl (by kernel_rfl) (by kernel_rfl) (by kernel_rfl) rfl Z ?_)|(refine aP hV ?_)))
        all_goals exact RQ X
      |true=>
       have aw:=of_decide_eq_true q2;rw[if_pos ⟨ad,by omega⟩]at X
       have ew:IntKind.i64.wrap ((k:Int)-1)=((k-1:Nat):Int):=by rw[av (by omega) (by omega)];omega
       rcases aa with⟨M,N⟩|⟨M,N,b3⟩|⟨M,N,b3⟩
       ·(repeat' (first|(with_reducible first|refine ab Y ?_|refine ab hA ?_|refine ab hC ?_|refine ab hL ?_)|simp only[EV,seval,am,O,T,I,M,J,q1,q2,ew,D]|simp only[EV,seval,am,O,T,I,M,J,q1,q2,ew]|(with_reducible intro V F;(try(have E:=F;simp only[EVK]at E;first|(have D:=AI E D)|(have D:=E))))|(with_reducible first|refine af ?_ ?_|refine ag ?_)|(refine bD (e:=284) (L:=4) (n:=w) rfl rfl (by kernel_rfl) (by kernel_rfl) (by kernel_rfl) rfl Z ?_)|(refine aP hV ?_)))
        all_goals exact RQ X
       ·(repeat' (first|(with_reducible first|refine ab Y ?_|refine ab hA ?_|refine ab hC ?_|refine ab hL ?_)|simp only[EV,seval,am,O,T,I,M,N,J,q1,q2,ew,D]|simp only[EV,seval,am,O,T,I,M,N,J,q1,q2,ew]|(with_reducible intro V F;(try(have E:=F;simp only[EVK]at E;first|(have D:=AI E D)|(have D:=E))))|(with_reducible first|refine af ?_ ?_|refine ag ?_)|(refine bD (e:=284) (L:=4) (n:=w) rfl rfl (by kernel_rfl) (by kernel_rfl) (by kernel_rfl) rfl Z ?_)|(refine aP hV ?_)))
        all_goals exact RQ X
       ·(repeat' (first|(with_reducible first|refine ab Y ?_|refine ab hA ?_|refine ab hC ?_|refine ab hL ?_)|simp only[EV,seval,am,O,T,I,M,N,J,q1,q2,ew,D]|simp only[EV,seval,am,O,T,I,M,N,J,q1,q2,ew]|(with_reducible intro V F;(try(have E:=F;simp only[EVK]at E;first|(have D:=AI E D)|(have D:=E))))|(with_reducible first|refine af ?_ ?_|refine ag ?_)|(refine bD (e:=284) (L:=4) (n:=w) rfl rfl (by kernel_rfl) (by kernel_rfl) (by kernel_rfl) rfl Z ?_)|(refine aP hV ?_)))
        all_goals exact RQ X
end
def dest_ins (u:U) (x:Itm) (h:x.kind=0):dest u x=insPt u x.at_ x.wh:=by
 unfold dest insPt;split
 ·rfl
 ·rfl
section
variable (G:Glob)
set_option maxHeartbeats 4000000 in
def f206 (u:U) (x:Itm) (hs:u.Short) (hN:u.flat.length<=1024) (hn:u.ids.Nodup) (hk:∀i q,aL i u=some q->q.2.2<1000000) (ah:∀i w q,spot u i w=some q->q.2<1000000) (ad:x.kind=0\/x.kind=6) (h0:0<=x.wh) (h3:x.wh<=3) (hp:x.at_.length<1000000) (al:x.to_.length<1000000):
  Pure G Tryz.prog 206 [.agg u.cs,.agg x.cs] (cX (dest u x)):=by
 have Y:=f26 G u x.at_ hs.1 hN hp
 have N:=f26 G u x.to_ hs.1 hN al
 have hI:=f301 G u x.at_ x.wh hs hN hn hk hp h0 h3
 have Z:=f302 G x.wh
 have e1:inR x.wh 0 3=true:=by simp[inR];omega
 rw[e1]at Z
 rw[dT x]
 refine Pure.w c206 λR I=>?_
 unfold s206 r206
 rcases ad with h|h
 ·rw[dest_ins u x h]at I
  have M:decide (x.kind=0)=true:=decide_eq_true h;obtain⟨z,hz⟩:∃z,insPt u x.at_ x.wh=z:=⟨_,rfl⟩;rw[hz]at hI I;unfold cX at hI I
  rcases z with⟨q,k⟩|e
  ·(repeat' (first|(with_reducible refine ab hI ?_)|simp only[EV,seval,M,E]|simp only[EV,seval,M]|(with_reducible intro O F;(try(have D:=F;simp only[EVK]at D;(have E:=D))))))
   all_goals exact RQ I
  ·(repeat' (first|(with_reducible refine ab hI ?_)|simp only[EV,seval,M,E]|simp only[EV,seval,M]|(with_reducible intro O F;(try(have D:=F;simp only[EVK]at D;(have E:=D))))))
   all_goals exact RQ I
 ·have M:decide (x.kind=0)=false:=decide_eq_false (by omega)
  have X:decide (x.kind=6)=true:=decide_eq_true h;have J:decide (x.kind≠6)=false:=decide_eq_false (by omega);unfold gQ at Y N;unfold dest at I;rw[if_neg (show ¬x.kind=0 by omega)]at I;have hid:=bH (u:=u) (p:=x.at_);have V:=bH (u:=u) (p:=x.to_);obtain⟨⟨i,e⟩,ac⟩:∃z,one u x.at_=z:=⟨_,rfl⟩;obtain⟨⟨t,e'⟩,aa⟩:∃z,one u x.to_=z:=⟨_,rfl⟩;rw[ac]at Y hid I;rw[aa]at N V I;simp only at Y N hid V I
  rcases Classical.em (e=0)with g|g
  ·subst g;rw[if_neg (by simp)]at I
   rcases Classical.em (e'=0)with g'|g'
   ·subst g';rw[if_neg (by simp)]at I;have T:=f303 G u i t x.wh hs hN hn hk (ah t x.wh) (hid rfl) (V rfl) h0 h3;simp only[Idd.cs]at T;obtain⟨z,hz⟩:∃z,eu u i t x.wh=z:=⟨_,rfl⟩;rw[hz]at T I;unfold dz at T;unfold cX at I
    rcases z with _|⟨q,k⟩
    ·(repeat' (first|(with_reducible first|refine ab Y ?_|refine ab N ?_|refine ab Z ?_|refine ab T ?_)|simp only[EV,seval,M,X,J,E]|simp only[EV,seval,M,X,J]|(with_reducible intro O F;(try(have D:=F;simp only[EVK]at D;first|(have E:=AI D E)|(have E:=D))))))
     all_goals exact RQ I
    ·(repeat' (first|(with_reducible first|refine ab Y ?_|refine ab N ?_|refine ab Z ?_|refine ab T ?_)|simp only[EV,seval,M,X,J,E]|simp only[EV,seval,M,X,J]|(with_reducible intro O F;(try(have D:=F;simp only[EVK]at D;first|(have E:=AI D E)|(have E:=D))))|(with_reducible first|refine af ?_ ?_|refine ag ?_)))
     all_goals exact RQ I
   ·rw[if_pos g']at I;have g2:decide (e'=0)=false:=decide_eq_false g';unfold cX at I;(repeat' (first|(with_reducible (refine ae (λh=>?_) λh=>?_)<;>(try simp only[DZ]at h))|(with_reducible first|refine ab Y ?_|refine ab N ?_|refine ab Z ?_)|simp only[EV,seval,M,X,J,g',E]|simp only[EV,seval,M,X,J,g']|(with_reducible intro O F;(try(have D:=F;simp only[EVK]at D;first|(have E:=AI D E)|(have E:=D))))|(exfalso;omega)))
    all_goals exact RQ I
  ·rw[if_pos g]at I;unfold cX at I;(repeat' (first|(with_reducible (refine ae (λh=>?_) λh=>?_)<;>(try simp only[DZ]at h))|(with_reducible first|refine ab Y ?_|refine ab Z ?_)|simp only[EV,seval,M,X,J,g,E]|simp only[EV,seval,M,X,J,g]|(with_reducible intro O F;(try(have D:=F;simp only[EVK]at D;first|(have E:=AI D E)|(have E:=D))))|(exfalso;omega)))
   all_goals exact RQ I
end
def U.csv (x:U) (v:AV):List AV:=[.i x.id.act,.i x.id.item,.i x.id.n,.i x.kind,.str x.label,.lst 4 (x.head.map Wd.cs),.lst 4 (x.words.map Wd.cs),v]
def kz (G:Glob) (f:Value) (g:U->U) (σ:Store) (x:U):Prop:=
 ∀b v κ,bI 27 8 (x.kids.map U.cs) v κ->(Store.keys ((b,AObj.cells 27 (x.csv v))::(σ++κ))).Nodup->
  cu G Tryz.prog f [.p b] ((b,.cells 27 (x.csv v))::(σ++κ)) (λr σ'=>∃E D,bI 27 8 ((g x).kids.map U.cs) E D/\σ'=(b,.cells 27 ((g x).csv E))::(σ++D))
def sm {x:U} {v:AV} {κ:Store} (h:bI 27 8 (x.kids.map U.cs) v κ):FrzL κ (x.csv v) x.cs:=by
 rw[b0];exact⟨.inl rfl,.inl rfl,.inl rfl,.inl rfl,.inl rfl,.inl rfl,.inl rfl,.inr ⟨27,8,_,_,h,λq D=>D,rfl⟩,trivial⟩
def oG {i:Idd} {us a b:List U} {k:U} (e:us=a++k::b) (D:(U.idss us).Nodup) (hi:i∈k.ids):Split i us a k b:=by
 subst e
 have e:U.idss (a++k::b)=U.idss a++(k.ids++U.idss b):=by
  induction a with
  |nil=>rw[nil_append,eH,rL];rfl
  |cons x a ih=>
   rw[cons_append,eH,eH];rw[cons_append,eH]at D;rw[ih (nodup_append.1 D).2.1,append_assoc]
 rw[e]at D;obtain⟨M,E,F⟩:=nodup_append.1 D;obtain⟨I,N,J⟩:=nodup_append.1 E;exact⟨rfl,hi,λh=>F i h i (mem_append.2 (.inl hi)) rfl,λh=>J i hi i h rfl,I⟩
def mV {i:Idd} {u:U} {a b:List U} {k:U} (h:u.id≠i) (s:Split i u.kids a k b):fnd i u=fnd i k:=by
 unfold Go.Av.fnd;rw[s.way h];have:=ed s.mem
 cases D:U.way i k<;>simp_all[getLastD_cons]
def ur {a b c d e:Nat×AObj} {σ:Store}:SubN (c::d::e::σ) (σ++[a,b,c,d,e]):=
 SubN.trans (SubN.tail (SubN.tail (SubN.refl _) _) _) (nm (perm_append_comm (l₁:=[a,b,c,d,e]) (l₂:=σ)))
def nd_pull {κ σ:Store} {p b:Nat} {A B C:AObj} (h:(κ++(p,A)::(b,B)::σ:Store).keys.Nodup):(Store.keys ((b,C)::(σ++κ))).Nodup:=by
 have:=(SubN.trans (SubN.cons (nm perm_append_comm) _) (SubN.trans (SubN.cons (SubN.tail (SubN.refl _) _) _) su)).2 h;simpa[Store.keys]using this
section
variable (G:Glob)
set_option maxHeartbeats 4000000 in
def f215 (f:Value) (g:U->U) (σ:Store) (i:Idd):∀(u:U),u.Short->u.ids.Nodup->i∈u.ids->kz G f g σ (fnd i u)->
  aj G Tryz.prog 215 [.agg u.cs,.agg i.cs,.sc f] σ (λr σ'=>r= .agg (U.wth i g u).cs/\σ'=σ):=by
 refine U.ind λu ih hs hn hi hD=>?_
 have e1:=hs.1.kids
 have bb:=f278 G (u.kids.map U.cs) (eP _) (by rw[length_map];omega)
 refine sC (R1:=λσ'=>σ'=σ) ?_
 refine aj.w c215 ?_
 unfold s215 r215
 by_cases Z:u.id=i
 ·have e0:decide (u.id=i)=true:=decide_eq_true Z
  have cw:fnd i u=u:=aB (by rw[aN Z];rfl);rw[cw]at hD;rw[aZ Z,b0 u];(repeat' (first|simp only[EV,seval,am,e0,D]|simp only[EV,seval,am,e0]|(with_reducible intro E F;(try(have I:=F;simp only[EVK]at I;(have D:=I))))));rename_i O cp;refine bq [] ((E,_)::(O,_)::σ) bb.v (hH _) (SubN.refl _) (λv κ ho T=>⟨_,su,?_⟩);have hv:=ho;obtain⟨aw,cap,rfl,_⟩:=hv;have q1:¬O=E:=λe=>D.1 e.symm;(repeat' (simp only[EV,seval,q1,D]));rw[length_map]at ho;have bd:=hD O _ κ ho (nd_pull T);simp only[U.csv]at bd;refine bq ((O,_)::(σ++κ)) [(E,_)] bd (hH _) uq (λr e2 hr bm=>?_);obtain⟨v2,bx,ad,rfl⟩:=hr;refine⟨_,uD,?_⟩;have hv:=ad;obtain⟨cm,dd,rfl,_⟩:=hv;(repeat' (simp only[EV,seval,q1,D]));rw[length_map]at ad;refine rv (σ':=bx++σ) (SubN.tail (SubN.tail (SubN.refl _) _) _) ⟨_,bx,σ,rfl,sm ad,rfl,rfl⟩
 ·have e0:decide (u.id=i)=false:=decide_eq_false Z
  have ac:i∈U.idss u.kids:=by
   rw[o5,mem_cons]at hi;exact hi.resolve_left (Ne.symm Z)
  have bn:u.kids≠[]:=by intro h;rw[h,rL]at ac;cases ac
  have d3:=(rB hn).1;rw[b0 u];(repeat' (first|simp only[EV,seval,am,e0,D]|simp only[EV,seval,am,e0]|(with_reducible intro E F;(try(have I:=F;simp only[EVK]at I;(have D:=I))))));rename_i O cp;refine bq [] ((E,_)::(O,_)::σ) bb.v (hH _) (SubN.refl _) (λv κ ho T=>⟨_,su,?_⟩);have hv:=ho;obtain⟨aw,cap,rfl,hv⟩:=hv;rw[length_map]at ho
  rcases hv with⟨h1,_⟩|⟨Y,pad,rfl,rfl,g1,g2,g3,g4⟩
  ·exact absurd (map_eq_nil_iff.1 h1) bn
  have q1:¬O=E:=λe=>D.1 e.symm;have q0:¬E=O:=D.1;simp[Store.keys]at T;have q2:¬Y=E:=T.1.1;have q3:¬Y=O:=T.1.2.1;have al:¬E=Y:=λe=>q2 e.symm;have an:¬O=Y:=λe=>q3 e.symm;rw[length_map]at g1;(repeat' (first|simp only[EV,seval,length_map,J.yes,J.le0,J.lt',J.get,J.row,hw]|simp only[EV,seval,length_map,hn]|(refine ap u.kids (λM r (c:Unit)=>i∈U.idss r) (λM c=>[(2,.sc f),(3,.p O),(4,.ref i.cs),(6,.p E),(7,.sc (.slice (some ⟨Y,0,none⟩) u.kids.length cap)),(26,.sc (.slice (some ⟨Y,0,none⟩) u.kids.length cap)),(27,.i u.kids.length),(28,.i M)]) (λM c=>[(O,.cells 27 (U.csv u (.lst 8 (u.kids.map U.cs)))),(E,.cells 27 [.i 0,.i 0,.i 0,.i 0,.str [],.nil,.nil,.nil]),(Y,.cells 27 ((u.kids.map U.cs).flatten++pad))]++σ) () ac (a0 _ _) (by omega) (λM x r c V J hw=>?_) (λc V hn=>?_))))
  ·have N:=J.lt
   have ah:u.kids[M]? =some x:=by rw[getElem?_eq_getElem N,←J.get x];simp[N]
   have d1:(u.kids.map U.cs)[M]? =some x.cs:=by rw[getElem?_map,ah];rfl
   have aa:(((u.kids.map U.cs).flatten++pad).drop (0+M*8)).take 8=x.cs:=by simpa using kM (pad:=pad) g3 d1
   have dl:8<=(((u.kids.map U.cs).flatten++pad).drop (0+M*8)).length:=by
    rw[length_drop,g4];omega
   have ds:0+M*8+8<=((u.kids.map U.cs).flatten++pad).length:=by
    rw[g4];omega
   have hF:=f27 G i x (hs.kid J.mem);unfold iL at hF;simp only[Idd.cs]at hF;by_cases X:i∈x.ids
   ·rw[gw X,if_neg (by simp)]at hF
    have be:u.kids=u.kids.take M++x::u.kids.drop (M+1):=by
     have h3:u.kids.drop M=x::u.kids.drop (M+1):=by
      rw[drop_eq_getElem_cons N];congr 1;rw[getElem?_eq_getElem N]at ah;exact Option.some.inj ah
     rw[←h3,take_append_drop]
    have sp:=oG be d3 X;have d0:=mV Z sp;clear be;have bh:=ih x J.mem (hs.kid J.mem) sp.nd X (by rw[←d0];exact hD);have bw:=sp.wth (f:=g) Z
    have bs:aM ((u.kids.map U.cs).flatten++pad) (0+M*8) (U.wth i g x).cs=((u.kids.set M (U.wth i g x)).map U.cs).flatten++pad:=by
     rw[map_set];simpa using ju (pad:=pad) g3 (by rw[length_map];exact N) (hJ _)
    have d2:u.kids.take M++U.wth i g x::u.kids.drop (M+1)=u.kids.set M (U.wth i g x):=by
     rw[set_eq_take_append_cons_drop,if_pos N]
    rw[d2]at bw;simp only[Idd.cs]at bh;(repeat' (first|(with_reducible first|refine AI (by omega) ?_|refine ab hF ?_)|simp only[EV,seval,J.yes,J.le0,J.lt',J.get,hw,aa,q0,q1,q2,q3,al,an,D]|(with_reducible intro E F;(try(have I:=F;simp only[EVK]at I;(have D:=AI I D))))));refine bq σ [_,_,_,_,_] bh.v (hH _) (nm (perm_append_comm (l₁:=σ) (l₂:=[_,_,_,_,_]))) (λr1 ch hr bm=>?_);obtain⟨rfl,rfl⟩:=hr;refine⟨_,ur,?_⟩;(repeat' (first|(with_reducible refine AI (by omega) ?_)|simp only[EV,seval,J.yes,J.le0,J.lt',J.get,hw,aa,bs,q0,q1,q2,q3,al,an,U.csv,D]));refine rv (σ':=[(Y,_)]++ch) (SubN.tail (SubN.tail (SubN.refl _) _) _) ⟨_,[(Y,_)],ch,rfl,?_,rfl,rfl⟩;rw[bw];refine sm (x:={u with kids:=u.kids.set M (U.wth i g x)}) (bI.mk (by rw[length_map,length_set]) (by rw[length_map,length_set];exact g1) g2 (eP _) ?_);rw[←g4,length_append,length_append,aA _ (eP _),aA _ (eP _),length_map,length_map,length_set]
   ·have dc:(U.way i x).isEmpty=true:=by rw[(cE x).2 X];rfl
    rw[dc,if_pos rfl]at hF;rw[eH,mem_append]at V;have bo:=V.resolve_left X;(repeat' (first|(with_reducible first|refine AI (by omega) ?_|refine ab hF ?_)|simp only[EV,seval,J.yes,J.le0,J.lt',J.get,hw,aa,q0,q1,q2,q3,al,an,D]|(with_reducible intro E F;(try(have I:=F;simp only[EVK]at I;(have D:=AI I D))))));exact ak J () bo (Weak.sub (SubN.tail (SubN.tail (SubN.refl _) _) _))
  ·rw[rL]at V;cases V
end
end Go.Av
