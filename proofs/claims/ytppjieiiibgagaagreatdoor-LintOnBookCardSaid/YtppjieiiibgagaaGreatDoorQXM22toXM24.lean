/-
  ENACT, M22: where a unit will be: by the program.
-/
import Derived.Test.YtppjieiiibgagaaGreatDoorQXAv33toXAv36
import Derived.Test.YtppjieiiibgagaaGreatDoorQXM18toXM21
set_option linter.all false
namespace Go.Av
open Go Go.RowKit Go.Proofs List
def dX:Option (Idd×Nat)->AV
 |some (q,k)=>.tup [.agg [.int .i64 q.act,.int .i64 q.item,.int .i64 q.n,.int .i64 k],.int .i64 0]
 |none=>.tup [.agg [.int .i64 0,.int .i64 0,.int .i64 0,.int .i64 0],.int .i64 9]
def dx:(Idd×Nat) ⊕ Int->AV
 | .inl (q,k)=>.tup [.agg [.int .i64 q.act,.int .i64 q.item,.int .i64 q.n],.int .i64 k,.int .i64 0]
 | .inr e=>.tup [.agg [.int .i64 0,.int .i64 0,.int .i64 0],.int .i64 0,.int .i64 e]
def dest (u:U) (x:Itm):(Idd×Nat) ⊕ Int:=
 if (one u x.at_).2≠0 then .inr (one u x.at_).2
 else if x.kind=0 then (match spot u (one u x.at_).1 x.wh with|none=>.inr 9|some q=>.inl q)
 else if (one u x.to_).2≠0 then .inr (one u x.to_).2
 else match fH u (one u x.at_).1 (one u x.to_).1 x.wh with|none=>.inr 9|some q=>.inl q
def iF {i:Idd} {u:U} (hi:i∈u.ids):(U.way i u).isEmpty=false:=by
 have:=ct.2 hi
 cases h:U.way i u<;>simp_all
section
variable (G:Glob)
def f377 (u:U) (i:Idd) (f:Value) (m:Int) (O:u.Short) (hi:i∈u.ids) (N:gg G Tryz.prog f [.i (fnd i u).kids.length] (.i m)):
  Pure G Tryz.prog 377 [.agg u.cs,.agg i.cs,.sc f] (.tup [.agg [.i i.act,.i i.item,.i i.n,.i m],.i 0]):=by
 have F:=f27 G i u O
 unfold kG at F
 rw[iF hi,if_neg (by simp)]at F
 simp only[Idd.cs]at F
 rw[hH (fnd i u)]at F
 refine Pure.w c377 λR M=>?_
 unfold s377 r377
 (repeat' (first|(with_reducible refine ab F ?_)|simp only[EV,seval,D]|simp only[EV,seval]|(with_reducible intro J I;(try(have E:=I;simp only[EVK]at E;first|(have D:=AI E D)|(have D:=E))))|(refine aM N ?_)))
 all_goals exact RQ M
def f378 (n:Int):Pure G Tryz.prog 378 [.i n] (.i 0):=by
 refine Pure.w c378 λR D=>?_;unfold s378 r378;(repeat' (simp only[EV,seval]));(all_goals((exact RET.eq D rfl)))
def f380 (n:Int):Pure G Tryz.prog 380 [.i n] (.i n):=by
 refine Pure.w c380 λR D=>?_;unfold s380 r380;(repeat' (simp only[EV,seval]));(all_goals((exact RET.eq D rfl)))
def f376 (u:U) (i:Idd) (N:u.Short) (hi:i∈u.ids):Pure G Tryz.prog 376 [.agg u.cs,.agg i.cs] (dX (spot u i 0)):=by
 have I:=f377 G u i _ 0 N hi (f378 G _).v;simp only[Idd.cs]at I;refine Pure.w c376 λR M=>?_;unfold s376 r376;(repeat' (first|(with_reducible refine ab I ?_)|simp only[EV,seval,F]|simp only[EV,seval]|(with_reducible intro J D;(try(have E:=D;simp only[EVK]at E;(have F:=E))))))
 all_goals exact RQ M
def f379 (u:U) (i:Idd) (N:u.Short) (hi:i∈u.ids):Pure G Tryz.prog 379 [.agg u.cs,.agg i.cs] (dX (spot u i 1)):=by
 have I:=f377 G u i _ _ N hi (f380 G _).v;simp only[Idd.cs]at I;refine Pure.w c379 λR M=>?_;unfold s379 r379;(repeat' (first|(with_reducible refine ab I ?_)|simp only[EV,seval,F]|simp only[EV,seval]|(with_reducible intro J D;(try(have E:=D;simp only[EVK]at E;(have F:=E))))))
 all_goals exact RQ M
def f382 (u:U) (i:Idd) (b:Nat) (Y:b<=1) (X:u.Short) (V:u.ids.Nodup) (T:∀q,aQ i u=some q->q.2.2<1000000):
  Pure G Tryz.prog 382 [.agg u.cs,.agg i.cs,.i b] (dX ((aQ i u).map λq=>(q.1.id,q.2.2+b))):=by
 have I:=f135 G i u X V
 simp only[Idd.cs]at I
 unfold lC at I
 refine Pure.w c382 λR J=>?_
 unfold s382 r382
 rcases O:aQ i u with _|⟨p,d,k⟩
 ·rw[O]at I J
  (repeat' (first|(with_reducible refine ab I ?_)|simp only[EV,seval,D]|simp only[EV,seval]|(with_reducible intro M F;(try(have E:=F;simp only[EVK]at E;first|(have D:=AI E D)|(have D:=E))))))
  all_goals exact RQ J
 ·have N:=T _ O
  rw[O]at I J;simp only at N
  have e:IntKind.i64.wrap ((k:Int)+(b:Int))=((k+b:Nat):Int):=by rw[av (by omega) (by omega)];omega
  (repeat' (first|(with_reducible refine ab I ?_)|simp only[EV,seval,e,D]|simp only[EV,seval,e]|(with_reducible intro M F;(try(have E:=F;simp only[EVK]at E;first|(have D:=AI E D)|(have D:=E))))))
  all_goals exact RQ J
def f381 (u:U) (i:Idd) (T:u.Short) (O:u.ids.Nodup) (N:∀q,aQ i u=some q->q.2.2<1000000):Pure G Tryz.prog 381 [.agg u.cs,.agg i.cs] (dX (spot u i 2)):=by
 have F:=f382 G u i 1 (by omega) T O N;simp only[Idd.cs]at F
 have e:spot u i 2=(aQ i u).map λq=>(q.1.id,q.2.2+1):=by unfold spot;simp
 rw[e];obtain⟨z,V⟩:∃z,(aQ i u).map (λq=>(q.1.id,q.2.2+1))=z:=⟨_,rfl⟩;rw[V]at F ⊢;refine Pure.w c381 λR J=>?_;unfold s381 r381;unfold dX at F J
 rcases z with _|⟨q,k⟩<;>(repeat' (first|(with_reducible refine ab F ?_)|simp only[EV,seval,I]|simp only[EV,seval]|(with_reducible intro M D;(try(have E:=D;simp only[EVK]at E;(have I:=E))))))
 all_goals exact RQ J
def f383 (u:U) (i:Idd) (T:u.Short) (O:u.ids.Nodup) (N:∀q,aQ i u=some q->q.2.2<1000000):Pure G Tryz.prog 383 [.agg u.cs,.agg i.cs] (dX (spot u i 3)):=by
 have F:=f382 G u i 0 (by omega) T O N;simp only[Idd.cs]at F
 have e:spot u i 3=(aQ i u).map λq=>(q.1.id,q.2.2+0):=by unfold spot;simp
 rw[e];obtain⟨z,V⟩:∃z,(aQ i u).map (λq=>(q.1.id,q.2.2+0))=z:=⟨_,rfl⟩;rw[V]at F ⊢;refine Pure.w c383 λR J=>?_;unfold s383 r383;unfold dX at F J
 rcases z with _|⟨q,k⟩<;>(repeat' (first|(with_reducible refine ab F ?_)|simp only[EV,seval,I]|simp only[EV,seval]|(with_reducible intro M D;(try(have E:=D;simp only[EVK]at E;(have I:=E))))))
 all_goals exact RQ J
def f347:Pure G Tryz.prog 347 [] (.agg [fnV 376,fnV 379,fnV 381,fnV 383]):=by
 refine Pure.w c347 λR I=>?_;unfold s347 r347;(repeat' (first|simp only[EV,seval]|(with_reducible intro F D;(try(have E:=D;simp only[EVK]at E;(have J:=E))))|(refine q9 (e:=284) (by kernel_rfl) (by kernel_rfl) (by kernel_rfl) ?_)))
 all_goals exact RQ I
def leadV (wh:Int):Value:=.func (.func (if wh=0 then 376 else if wh=1 then 379 else if wh=2 then 381 else 383)) #[] #[]
def nB (u:U) (i:Idd) (wh:Int) (J:0<=wh) (M:wh<=3) (D:u.Short) (hi:i∈u.ids) (F:u.ids.Nodup) (E:∀q,aQ i u=some q->q.2.2<1000000):gg G Tryz.prog (leadV wh) [.agg u.cs,.agg i.cs] (dX (spot u i wh)):=by
 have I:wh=0\/wh=1\/wh=2\/wh=3:=by omega
 rcases I with rfl|rfl|rfl|rfl
 ·exact(f376 G u i D hi).v
 ·exact(f379 G u i D hi).v
 ·exact(f381 G u i D F E).v
 ·exact(f383 G u i D F E).v
def pO (w:Nat) (h:w<4):[fnV 376,fnV 379,fnV 381,fnV 383].getD w .any= .sc (leadV w):=by
 have D:w=0\/w=1\/w=2\/w=3:=by omega
 rcases D with rfl|rfl|rfl|rfl<;>rfl
end
def insPt (u:U) (p:List Stp) (wh:Int):(Idd×Nat) ⊕ Int:=
 if (one u p).2≠0 then .inr (one u p).2 else match spot u (one u p).1 wh with|none=>.inr 9|some q=>.inl q
section
variable (G:Glob)
set_option maxHeartbeats 4000000 in
def f301 (u:U) (p:List Stp) (wh:Int) (hs:u.Short) (hN:u.flat.length<=1024) (hn:u.ids.Nodup) (hk:∀i q,aQ i u=some q->q.2.2<1000000) (hp:p.length<1000000) (Y:0<=wh) (h3:wh<=3):
  Pure G Tryz.prog 301 [.agg u.cs,.lst 2 (p.map Stp.cs),.i wh] (dx (insPt u p wh)):=by
 obtain⟨w,rfl⟩:=Int.eq_ofNat_of_zero_le Y
 have N:w<4:=by omega
 have O:=f26 G u p hs.1 hN hp
 have V:=f302 G (w:Int)
 have Z:=f347 G
 have e1:inR (w:Int) 0 3=true:=by simp[inR];omega
 rw[e1]at V
 unfold jV at O
 have hid:=cB (u:=u) (p:=p)
 unfold insPt
 obtain⟨⟨i,e⟩,X⟩:∃z,one u p=z:=⟨_,rfl⟩
 rw[X]at O hid ⊢
 simp only at O hid ⊢
 refine Pure.w c301 λR J=>?_
 unfold s301 r301
 rcases Classical.em (e=0)with h|h
 ·subst h
  have M:=nB G u i w Y h3 hs (hid rfl) hn (hk i);have I:=pO w N;simp only[Idd.cs]at M;rw[if_neg (by simp)]at J;obtain⟨f,hf⟩:∃f,leadV (w:Int)=f:=⟨_,rfl⟩;rw[hf]at M I
  rcases hz:spot u i w with _|⟨q,k⟩
  ·rw[hz]at J M;unfold dX at M;unfold dx at J;(repeat' (first|(with_reducible first|refine ab O ?_|refine ab V ?_|refine ab Z ?_)|simp only[EV,seval,I,D]|simp only[EV,seval,I]|(with_reducible intro T F;(try(have E:=F;simp only[EVK]at E;first|(have D:=AI E D)|(have D:=E))))|(with_reducible first|refine ag ?_ ?_|refine ai ?_)|(refine bI (e:=284) (L:=4) (n:=w) rfl rfl (by kernel_rfl) (by kernel_rfl) (by kernel_rfl) rfl N ?_)|(refine aM M ?_)))
   all_goals exact RQ J
  ·rw[hz]at J M;unfold dX at M;unfold dx at J;(repeat' (first|(with_reducible first|refine ab O ?_|refine ab V ?_|refine ab Z ?_)|simp only[EV,seval,I,D]|simp only[EV,seval,I]|(with_reducible intro T F;(try(have E:=F;simp only[EVK]at E;first|(have D:=AI E D)|(have D:=E))))|(with_reducible first|refine ag ?_ ?_|refine ai ?_)|(refine bI (e:=284) (L:=4) (n:=w) rfl rfl (by kernel_rfl) (by kernel_rfl) (by kernel_rfl) rfl N ?_)|(refine aM M ?_)))
   all_goals exact RQ J
 ·rw[if_pos h]at J
  unfold dx at J;(repeat' (first|(with_reducible (refine ae (λh=>?_) λh=>?_)<;>(try simp only[DZ]at h))|(with_reducible first|refine ab O ?_|refine ab V ?_)|simp only[EV,seval,D]|simp only[EV,seval]|(with_reducible intro T F;(try(have E:=F;simp only[EVK]at E;first|(have D:=AI E D)|(have D:=E))))|(with_reducible refine ag ?_ ?_)|(exfalso;omega)))
  all_goals exact RQ J
def under_eq (u:U) (i t:Idd):kC u i t=(decide (t≠i)&&decide (i∈anc t u)):=by
 unfold kC anc;congr 1;rw[Bool.eq_iff_iff,any_eq_true,decide_eq_true_eq,mem_reverse,mem_map];constructor
 ·rintro⟨y,E,D⟩;exact⟨y,E,of_decide_eq_true D⟩
 ·rintro⟨y,E,D⟩;exact⟨y,E,decide_eq_true D⟩
set_option maxHeartbeats 4000000 in
def f303 (u:U) (i t:Idd) (wh:Int) (hs:u.Short) (hN:u.flat.length<=1024) (hn:u.ids.Nodup) (hk:∀i q,aQ i u=some q->q.2.2<1000000) (al:∀q,spot u t wh=some q->q.2<1000000) (hi:i∈u.ids) (ht:t∈u.ids) (h0:0<=wh) (h3:wh<=3):
  Pure G Tryz.prog 303 [.agg u.cs,.agg i.cs,.agg t.cs,.i wh] (dX (fH u i t wh)):=by
 have Y:=f135 G i u hs hn
 have hA:=f288 G t u hs.1
 have hC:=f214 G (anc t u) i (by
  unfold anc
  rw[length_reverse,length_map,length_dropLast]
  have:=eE t u
  omega)
 have hL:=f347 G
 have hV:=nB G u t wh h0 h3 hs ht hn (hk t)
 have an:=under_eq u i t
 unfold lC at Y
 unfold fH
 rw[an]
 obtain⟨w,rfl⟩:=Int.eq_ofNat_of_zero_le h0
 have Z:w<4:=by omega
 have J:=pO w Z
 obtain⟨f,hf⟩:∃f,leadV (w:Int)=f:=⟨_,rfl⟩
 rw[hf]at hV J
 obtain⟨A,ah⟩:∃A,anc t u=A:=⟨_,rfl⟩
 rw[ah]at hA hC ⊢
 obtain⟨z,hz⟩:∃z,spot u t w=z:=⟨_,rfl⟩
 rw[hz]at al hV ⊢
 have be:=hk i
 obtain⟨y,hy⟩:∃y,aQ i u=y:=⟨_,rfl⟩
 rw[hy]at Y be ⊢
 clear hy hz ah hf an hk hn hN hs
 simp only[Idd.cs]at hV hC hA Y
 refine Pure.w c303 λR X=>?_
 unfold s303 r303
 have hb:besides (w:Int)=(decide ((w:Int)=2)||decide ((w:Int)=3)):=by unfold besides;rw[Bool.decide_or]
 have aa:(decide ((w:Int)=2)=true/\besides (w:Int)=true)\/(decide ((w:Int)=2)=false/\decide ((w:Int)=3)=true/\besides (w:Int)=true)\/(decide ((w:Int)=2)=false/\decide ((w:Int)=3)=false/\besides (w:Int)=false):=by
  rw[hb];cases decide ((w:Int)=2)<;>cases decide ((w:Int)=3)<;>simp
 rcases Classical.em (t=i)with hti|hti
 ·have O:decide (t=i)=true:=decide_eq_true hti
  have T:decide (t≠i)=false:=decide_eq_false (λh=>h hti)
  have I:(!decide (t=i))=false:=by rw[O];rfl
  rcases y with _|⟨own,d,j⟩
  ·rcases aa with⟨M,N⟩|⟨M,N,b3⟩|⟨M,N,b3⟩
   ·(repeat' (first|(with_reducible refine ab Y ?_)|simp only[EV,seval,am,O,T,I,M,D]|simp only[EV,seval,am,O,T,I,M]|(with_reducible intro V F;(try(have E:=F;simp only[EVK]at E;first|(have D:=AI E D)|(have D:=E))))))
    all_goals exact RQ X
   ·(repeat' (first|(with_reducible refine ab Y ?_)|simp only[EV,seval,am,O,T,I,M,N,D]|simp only[EV,seval,am,O,T,I,M,N]|(with_reducible intro V F;(try(have E:=F;simp only[EVK]at E;first|(have D:=AI E D)|(have D:=E))))))
    all_goals exact RQ X
   ·(repeat' (first|(with_reducible refine ab Y ?_)|simp only[EV,seval,am,O,T,I,M,N,D]|simp only[EV,seval,am,O,T,I,M,N]|(with_reducible intro V F;(try(have E:=F;simp only[EVK]at E;first|(have D:=AI E D)|(have D:=E))))))
    all_goals exact RQ X
  ·simp only[T,Bool.false_and,Bool.false_eq_true,false_or]at X
   rcases aa with⟨M,N⟩|⟨M,N,b3⟩|⟨M,N,b3⟩
   ·rw[if_neg (by rw[N];simp),if_pos hti]at X;(repeat' (first|(with_reducible refine ab Y ?_)|simp only[EV,seval,am,O,T,I,M,D]|simp only[EV,seval,am,O,T,I,M]|(with_reducible intro V F;(try(have E:=F;simp only[EVK]at E;first|(have D:=AI E D)|(have D:=E))))))
    all_goals exact RQ X
   ·rw[if_neg (by rw[b3];simp),if_pos hti]at X;(repeat' (first|(with_reducible refine ab Y ?_)|simp only[EV,seval,am,O,T,I,M,N,D]|simp only[EV,seval,am,O,T,I,M,N]|(with_reducible intro V F;(try(have E:=F;simp only[EVK]at E;first|(have D:=AI E D)|(have D:=E))))))
    all_goals exact RQ X
   ·rw[if_pos ⟨hti,b3⟩]at X;(repeat' (first|(with_reducible refine ab Y ?_)|simp only[EV,seval,am,O,T,I,M,N,D]|simp only[EV,seval,am,O,T,I,M,N]|(with_reducible intro V F;(try(have E:=F;simp only[EVK]at E;first|(have D:=AI E D)|(have D:=E))))))
    all_goals exact RQ X
 ·have O:decide (t=i)=false:=decide_eq_false hti
  have T:decide (t≠i)=true:=decide_eq_true hti
  have I:(!decide (t=i))=true:=by rw[O];rfl
  rcases y with _|⟨own,d,j⟩
  ·obtain⟨bb,ac⟩:∃bb,decide (i∈A)=bb:=⟨_,rfl⟩;rw[ac]at hC
   rcases aa with⟨M,N⟩|⟨M,N,b3⟩|⟨M,N,b3⟩
   ·(repeat' (first|(with_reducible first|refine ab Y ?_|refine ab hA ?_|refine ab hC ?_)|simp only[EV,seval,am,O,T,I,M,D]|simp only[EV,seval,am,O,T,I,M]|(with_reducible intro V F;(try(have E:=F;simp only[EVK]at E;first|(have D:=AI E D)|(have D:=E))))))
    all_goals exact RQ X
   ·(repeat' (first|(with_reducible first|refine ab Y ?_|refine ab hA ?_|refine ab hC ?_)|simp only[EV,seval,am,O,T,I,M,N,D]|simp only[EV,seval,am,O,T,I,M,N]|(with_reducible intro V F;(try(have E:=F;simp only[EVK]at E;first|(have D:=AI E D)|(have D:=E))))))
    all_goals exact RQ X
   ·(repeat' (first|(with_reducible first|refine ab Y ?_|refine ab hA ?_|refine ab hC ?_)|simp only[EV,seval,am,O,T,I,M,N,D]|simp only[EV,seval,am,O,T,I,M,N]|(with_reducible intro V F;(try(have E:=F;simp only[EVK]at E;first|(have D:=AI E D)|(have D:=E))))))
    all_goals exact RQ X
  ·simp only[T,Bool.true_and,hti,false_and,or_false,if_false]at X
   cases ac:decide (i∈A)with
   |true=>
    rw[ac]at hC X;rw[if_pos rfl]at X
    rcases aa with⟨M,N⟩|⟨M,N,b3⟩|⟨M,N,b3⟩
    ·(repeat' (first|(with_reducible first|refine ab Y ?_|refine ab hA ?_|refine ab hC ?_)|simp only[EV,seval,am,O,T,I,M,D]|simp only[EV,seval,am,O,T,I,M]|(with_reducible intro V F;(try(have E:=F;simp only[EVK]at E;first|(have D:=AI E D)|(have D:=E))))))
     all_goals exact RQ X
    ·(repeat' (first|(with_reducible first|refine ab Y ?_|refine ab hA ?_|refine ab hC ?_)|simp only[EV,seval,am,O,T,I,M,N,D]|simp only[EV,seval,am,O,T,I,M,N]|(with_reducible intro V F;(try(have E:=F;simp only[EVK]at E;first|(have D:=AI E D)|(have D:=E))))))
     all_goals exact RQ X
    ·(repeat' (first|(with_reducible first|refine ab Y ?_|refine ab hA ?_|refine ab hC ?_)|simp only[EV,seval,am,O,T,I,M,N,D]|simp only[EV,seval,am,O,T,I,M,N]|(with_reducible intro V F;(try(have E:=F;simp only[EVK]at E;first|(have D:=AI E D)|(have D:=E))))))
     all_goals exact RQ X
   |false=>
    rw[ac]at hC X;rw[if_neg (by simp)]at X
    rcases z with _|⟨q,k⟩
    ·unfold dX at hV
     rcases aa with⟨M,N⟩|⟨M,N,b3⟩|⟨M,N,b3⟩
     ·(repeat' (first|(with_reducible first|refine ab Y ?_|refine ab hA ?_|refine ab hC ?_|refine ab hL ?_)|simp only[EV,seval,am,O,T,I,M,J,D]|simp only[EV,seval,am,O,T,I,M,J]|(with_reducible intro V F;(try(have E:=F;simp only[EVK]at E;first|(have D:=AI E D)|(have D:=E))))|(with_reducible first|refine ag ?_ ?_|refine ai ?_)|(refine bI (e:=284) (L:=4) (n:=w) rfl rfl (by kernel_rfl) (by kernel_rfl) (by kernel_rfl) rfl Z ?_)|(refine aM hV ?_)))
      all_goals exact RQ X
     ·(repeat' (first|(with_reducible first|refine ab Y ?_|refine ab hA ?_|refine ab hC ?_|refine ab hL ?_)|simp only[EV,seval,am,O,T,I,M,N,J,D]|simp only[EV,seval,am,O,T,I,M,N,J]|(with_reducible intro V F;(try(have E:=F;simp only[EVK]at E;first|(have D:=AI E D)|(have D:=E))))|(with_reducible first|refine ag ?_ ?_|refine ai ?_)|(refine bI (e:=284) (L:=4) (n:=w) rfl rfl (by kernel_rfl) (by kernel_rfl) (by kernel_rfl) rfl Z ?_)|(refine aM hV ?_)))
      all_goals exact RQ X
     ·(repeat' (first|(with_reducible first|refine ab Y ?_|refine ab hA ?_|refine ab hC ?_|refine ab hL ?_)|simp only[EV,seval,am,O,T,I,M,N,J,D]|simp only[EV,seval,am,O,T,I,M,N,J]|(with_reducible intro V F;(try(have E:=F;simp only[EVK]at E;first|(have D:=AI E D)|(have D:=E))))|(with_reducible first|refine ag ?_ ?_|refine ai ?_)|(refine bI (e:=284) (L:=4) (n:=w) rfl rfl (by kernel_rfl) (by kernel_rfl) (by kernel_rfl) rfl Z ?_)|(refine aM hV ?_)))
      all_goals exact RQ X
    ·unfold dX at hV;have bd:=al _ rfl;simp only at bd;simp only[Option.map_some]at X
     cases q1:decide (q=own.id)with
     |false=>
      have ad:=of_decide_eq_false q1;rw[if_neg (λh=>ad h.1)]at X
      rcases aa with⟨M,N⟩|⟨M,N,b3⟩|⟨M,N,b3⟩
      ·(repeat' (first|(with_reducible first|refine ab Y ?_|refine ab hA ?_|refine ab hC ?_|refine ab hL ?_)|simp only[EV,seval,am,O,T,I,M,J,q1,D]|simp only[EV,seval,am,O,T,I,M,J,q1]|(with_reducible intro V F;(try(have E:=F;simp only[EVK]at E;first|(have D:=AI E D)|(have D:=E))))|(with_reducible first|refine ag ?_ ?_|refine ai ?_)|(refine bI (e:=284) (L:=4) (n:=w) rfl rfl (by kernel_rfl) (by kernel_rfl) (by kernel_rfl) rfl Z ?_)|(refine aM hV ?_)))
       all_goals exact RQ X
      ·(repeat' (first|(with_reducible first|refine ab Y ?_|refine ab hA ?_|refine ab hC ?_|refine ab hL ?_)|simp only[EV,seval,am,O,T,I,M,N,J,q1,D]|simp only[EV,seval,am,O,T,I,M,N,J,q1]|(with_reducible intro V F;(try(have E:=F;simp only[EVK]at E;first|(have D:=AI E D)|(have D:=E))))|(with_reducible first|refine ag ?_ ?_|refine ai ?_)|(refine bI (e:=284) (L:=4) (n:=w) rfl rfl (by kernel_rfl) (by kernel_rfl) (by kernel_rfl) rfl Z ?_)|(refine aM hV ?_)))
       all_goals exact RQ X
      ·(repeat' (first|(with_reducible first|refine ab Y ?_|refine ab hA ?_|refine ab hC ?_|refine ab hL ?_)|simp only[EV,seval,am,O,T,I,M,N,J,q1,D]|simp only[EV,seval,am,O,T,I,M,N,J,q1]|(with_reducible intro V F;(try(have E:=F;simp only[EVK]at E;first|(have D:=AI E D)|(have D:=E))))|(with_reducible first|refine ag ?_ ?_|refine ai ?_)|(refine bI (e:=284) (L:=4) (n:=w) rfl rfl (by kernel_rfl) (by kernel_rfl) (by kernel_rfl) rfl Z ?_)|(refine aM hV ?_)))
       all_goals exact RQ X
     |true=>
      have ad:=of_decide_eq_true q1
      cases q2:decide ((j:Int)<(k:Int))with
      |false=>
       have aw:=of_decide_eq_false q2;rw[if_neg (λh=>aw (by omega))]at X
       rcases aa with⟨M,N⟩|⟨M,N,b3⟩|⟨M,N,b3⟩
       ·(repeat' (first|(with_reducible first|refine ab Y ?_|refine ab hA ?_|refine ab hC ?_|refine ab hL ?_)|simp only[EV,seval,am,O,T,I,M,J,q1,q2,D]|simp only[EV,seval,am,O,T,I,M,J,q1,q2]|(with_reducible intro V F;(try(have E:=F;simp only[EVK]at E;first|(have D:=AI E D)|(have D:=E))))|(with_reducible first|refine ag ?_ ?_|refine ai ?_)|(refine bI (e:=284) (L:=4) (n:=w) rfl rfl (by kernel_rfl) (by kernel_rfl) (by kernel_rfl) rfl Z ?_)|(refine aM hV ?_)))
        all_goals exact RQ X
       ·(repeat' (first|(with_reducible first|refine ab Y ?_|refine ab hA ?_|refine ab hC ?_|refine ab hL ?_)|simp only[EV,seval,am,O,T,I,M,N,J,q1,q2,D]|simp only[EV,seval,am,O,T,I,M,N,J,q1,q2]|(with_reducible intro V F;(try(have E:=F;simp only[EVK]at E;first|(have D:=AI E D)|(have D:=E))))|(with_reducible first|refine ag ?_ ?_|refine ai ?_)|(refine bI (e:=284) (L:=4) (n:=w) rfl rfl (by kernel_rfl) (by kernel_rfl) (by kernel_rfl) rfl Z ?_)|(refine aM hV ?_)))
        all_goals exact RQ X
       ·(repeat' (first|(with_reducible first|refine ab Y ?_|refine ab hA ?_|refine ab hC ?_|refine ab hL ?_)|simp only[EV,seval,am,O,T,I,M,N,J,q1,q2,D]|simp only[EV,seval,am,O,T,I,M,N,J,q1,q2]|(with_reducible intro V F;(try(have E:=F;simp only[EVK]at E;first|(have D:=AI E D)|(have D:=E))))|(with_reducible first|refine ag ?_ ?_|refine ai ?_)|(refine bI (e:=284) (L:=4) (n:=w) rfl rfl (by kernel_rfl) (by kernel_rfl) (by kernel_rfl) rfl Z ?_)|(refine aM hV ?_)))
        all_goals exact RQ X
      |true=>
       have aw:=of_decide_eq_true q2;rw[if_pos ⟨ad,by omega⟩]at X
       have ew:IntKind.i64.wrap ((k:Int)-1)=((k-1:Nat):Int):=by rw[av (by omega) (by omega)];omega
       rcases aa with⟨M,N⟩|⟨M,N,b3⟩|⟨M,N,b3⟩
       ·(repeat' (first|(with_reducible first|refine ab Y ?_|refine ab hA ?_|refine ab hC ?_|refine ab hL ?_)|simp only[EV,seval,am,O,T,I,M,J,q1,q2,ew,D]|simp only[EV,seval,am,O,T,I,M,J,q1,q2,ew]|(with_reducible intro V F;(try(have E:=F;simp only[EVK]at E;first|(have D:=AI E D)|(have D:=E))))|(with_reducible first|refine ag ?_ ?_|refine ai ?_)|(refine bI (e:=284) (L:=4) (n:=w) rfl rfl (by kernel_rfl) (by kernel_rfl) (by kernel_rfl) rfl Z ?_)|(refine aM hV ?_)))
        all_goals exact RQ X
       ·(repeat' (first|(with_reducible first|refine ab Y ?_|refine ab hA ?_|refine ab hC ?_|refine ab hL ?_)|simp only[EV,seval,am,O,T,I,M,N,J,q1,q2,ew,D]|simp only[EV,seval,am,O,T,I,M,N,J,q1,q2,ew]|(with_reducible intro V F;(try(have E:=F;simp only[EVK]at E;first|(have D:=AI E D)|(have D:=E))))|(with_reducible first|refine ag ?_ ?_|refine ai ?_)|(refine bI (e:=284) (L:=4) (n:=w) rfl rfl (by kernel_rfl) (by kernel_rfl) (by kernel_rfl) rfl Z ?_)|(refine aM hV ?_)))
        all_goals exact RQ X
       ·(repeat' (first|(with_reducible first|refine ab Y ?_|refine ab hA ?_|refine ab hC ?_|refine ab hL ?_)|simp only[EV,seval,am,O,T,I,M,N,J,q1,q2,ew,D]|simp only[EV,seval,am,O,T,I,M,N,J,q1,q2,ew]|(with_reducible intro V F;(try(have E:=F;simp only[EVK]at E;first|(have D:=AI E D)|(have D:=E))))|(with_reducible first|refine ag ?_ ?_|refine ai ?_)|(refine bI (e:=284) (L:=4) (n:=w) rfl rfl (by kernel_rfl) (by kernel_rfl) (by kernel_rfl) rfl Z ?_)|(refine aM hV ?_)))
        all_goals exact RQ X
end
def dest_ins (u:U) (x:Itm) (h:x.kind=0):dest u x=insPt u x.at_ x.wh:=by
 unfold dest insPt;split
 ·rfl
 ·rfl
section
variable (G:Glob)
set_option maxHeartbeats 4000000 in
def f206 (u:U) (x:Itm) (hs:u.Short) (hN:u.flat.length<=1024) (hn:u.ids.Nodup) (hk:∀i q,aQ i u=some q->q.2.2<1000000) (ah:∀i w q,spot u i w=some q->q.2<1000000) (ad:x.kind=0\/x.kind=6) (h0:0<=x.wh) (h3:x.wh<=3) (hp:x.at_.length<1000000) (al:x.to_.length<1000000):
  Pure G Tryz.prog 206 [.agg u.cs,.agg x.cs] (dx (dest u x)):=by
 have Y:=f26 G u x.at_ hs.1 hN hp
 have N:=f26 G u x.to_ hs.1 hN al
 have hI:=f301 G u x.at_ x.wh hs hN hn hk hp h0 h3
 have Z:=f302 G x.wh
 have e1:inR x.wh 0 3=true:=by simp[inR];omega
 rw[e1]at Z
 rw[eH x]
 refine Pure.w c206 λR I=>?_
 unfold s206 r206
 rcases ad with h|h
 ·rw[dest_ins u x h]at I
  have M:decide (x.kind=0)=true:=decide_eq_true h;obtain⟨z,hz⟩:∃z,insPt u x.at_ x.wh=z:=⟨_,rfl⟩;rw[hz]at hI I;unfold dx at hI I
  rcases z with⟨q,k⟩|e
  ·(repeat' (first|(with_reducible refine ab hI ?_)|simp only[EV,seval,M,E]|simp only[EV,seval,M]|(with_reducible intro O F;(try(have D:=F;simp only[EVK]at D;(have E:=D))))))
   all_goals exact RQ I
  ·(repeat' (first|(with_reducible refine ab hI ?_)|simp only[EV,seval,M,E]|simp only[EV,seval,M]|(with_reducible intro O F;(try(have D:=F;simp only[EVK]at D;(have E:=D))))))
   all_goals exact RQ I
 ·have M:decide (x.kind=0)=false:=decide_eq_false (by omega)
  have X:decide (x.kind=6)=true:=decide_eq_true h;have J:decide (x.kind≠6)=false:=decide_eq_false (by omega);unfold jV at Y N;unfold dest at I;rw[if_neg (show ¬x.kind=0 by omega)]at I;have hid:=cB (u:=u) (p:=x.at_);have V:=cB (u:=u) (p:=x.to_);obtain⟨⟨i,e⟩,ac⟩:∃z,one u x.at_=z:=⟨_,rfl⟩;obtain⟨⟨t,e'⟩,aa⟩:∃z,one u x.to_=z:=⟨_,rfl⟩;rw[ac]at Y hid I;rw[aa]at N V I;simp only at Y N hid V I
  rcases Classical.em (e=0)with g|g
  ·subst g;rw[if_neg (by simp)]at I
   rcases Classical.em (e'=0)with g'|g'
   ·subst g';rw[if_neg (by simp)]at I;have T:=f303 G u i t x.wh hs hN hn hk (ah t x.wh) (hid rfl) (V rfl) h0 h3;simp only[Idd.cs]at T;obtain⟨z,hz⟩:∃z,fH u i t x.wh=z:=⟨_,rfl⟩;rw[hz]at T I;unfold dX at T;unfold dx at I
    rcases z with _|⟨q,k⟩
    ·(repeat' (first|(with_reducible first|refine ab Y ?_|refine ab N ?_|refine ab Z ?_|refine ab T ?_)|simp only[EV,seval,M,X,J,E]|simp only[EV,seval,M,X,J]|(with_reducible intro O F;(try(have D:=F;simp only[EVK]at D;first|(have E:=AI D E)|(have E:=D))))))
     all_goals exact RQ I
    ·(repeat' (first|(with_reducible first|refine ab Y ?_|refine ab N ?_|refine ab Z ?_|refine ab T ?_)|simp only[EV,seval,M,X,J,E]|simp only[EV,seval,M,X,J]|(with_reducible intro O F;(try(have D:=F;simp only[EVK]at D;first|(have E:=AI D E)|(have E:=D))))|(with_reducible first|refine ag ?_ ?_|refine ai ?_)))
     all_goals exact RQ I
   ·rw[if_pos g']at I;have g2:decide (e'=0)=false:=decide_eq_false g';unfold dx at I;(repeat' (first|(with_reducible (refine ae (λh=>?_) λh=>?_)<;>(try simp only[DZ]at h))|(with_reducible first|refine ab Y ?_|refine ab N ?_|refine ab Z ?_)|simp only[EV,seval,M,X,J,g',E]|simp only[EV,seval,M,X,J,g']|(with_reducible intro O F;(try(have D:=F;simp only[EVK]at D;first|(have E:=AI D E)|(have E:=D))))|(exfalso;omega)))
    all_goals exact RQ I
  ·rw[if_pos g]at I;unfold dx at I;(repeat' (first|(with_reducible (refine ae (λh=>?_) λh=>?_)<;>(try simp only[DZ]at h))|(with_reducible first|refine ab Y ?_|refine ab Z ?_)|simp only[EV,seval,M,X,J,g,E]|simp only[EV,seval,M,X,J,g]|(with_reducible intro O F;(try(have D:=F;simp only[EVK]at D;first|(have E:=AI D E)|(have E:=D))))|(exfalso;omega)))
   all_goals exact RQ I
end
end Go.Av
