/-
  ENACT LAWS, 0: rows that stand for rows; what a contract takes that stands for what it names.
-/
import Derived.Test.YtnoakpkjccigoaaGreatDoorVXM2toXOpE
import Derived.Test.YtnoakpkjccigoaaGreatDoorVXAv30toXAv33
import Derived.Test.YtnoakpkjccigoaaGreatDoorVXM14toXV1
namespace Go.Av
open Go Go.RowKit Go.Proofs List
set_option linter.unusedSimpArgs false
set_option linter.unusedVariables false
theorem LeReps.at {xs ys:List AV} (h:LeReps xs ys):∀{σ:Store} {w:World} {a:Addr} {i:Nat},RepAt σ w a i xs->RepAt σ w a i ys:=by
 induction h with
 |nil=>intro σ w a i h;exact h
 |cons h1 h2 ih=>
  intro σ w a i h
  simp only[RepAt]at h ⊢
  obtain⟨⟨u,f,o,r⟩,g⟩:=h
  exact⟨⟨u,f,o,h1 _ _ _ r⟩,ih g⟩
theorem LeReps.length {xs ys:List AV} (h:LeReps xs ys):xs.length=ys.length:=by
 induction h with
 |nil=>rfl
 |cons _ _ ih=>rw[length_cons,length_cons,ih]
inductive LeRows:List (List AV)->List (List AV)->Prop
 |nil:LeRows [] []
 |cons {x y xs ys}:LeReps x y->LeRows xs ys->LeRows (x::xs) (y::ys)
theorem LeRows.length {xs ys:List (List AV)} (h:LeRows xs ys):xs.length=ys.length:=by
 induction h with
 |nil=>rfl
 |cons _ _ ih=>rw[length_cons,length_cons,ih]
theorem LeRows.rep {xs ys:List (List AV)} (h:LeRows xs ys):∀{σ:Store} {w:World} {a:Addr} {sz i:Nat},ar σ w a sz i xs->ar σ w a sz i ys:=by
 induction h with
 |nil=>intro σ w a sz i h;exact h
 |cons h1 h2 ih=>
  intro σ w a sz i h
  simp only[ar]at h ⊢
  obtain⟨D,E,F⟩:=h
  exact⟨h1.length ▸ D,h1.at E,ih F⟩
theorem LeRep.own {g:Option Nat} {e:TypeId} {sz:Nat} {xs ys:List (List AV)} (h:LeRows xs ys):LeRep (.own g e sz xs) (.lst sz ys):=λσ w u D=>by
 cases g with
 |none=>
  simp only[Rep]at D ⊢
  obtain⟨E,rfl⟩:=D
  cases h;exact .inl ⟨E,rfl⟩
 |some b=>
  simp only[Rep]at D ⊢
  obtain⟨cap,E,F,I,_,J⟩:=D
  exact .inr ⟨_,cap,by rw[←h.length];exact E,by rw[←h.length];exact F,I,h.rep J⟩
theorem LeRep.agg {xs ys:List AV} (h:LeReps xs ys):LeRep (.agg xs) (.agg ys):=λσ w u D=>by
 simp only[Rep]at D ⊢
 obtain⟨vs,e,o,D⟩:=D
 exact⟨vs,e,o,h.rep D⟩
theorem LeRep.nil {sz:Nat}:LeRep .nil (.lst sz []):=λσ w u D=>by
 simp only[Rep]at D ⊢
 exact .inl ⟨D,trivial⟩
theorem Pure.lr {G:Glob} {P:Program} {k:FuncId} {args D:List AV} {r:AV} (h:Pure G P k D r) (I:LeReps args D):Pure G P k args r:=⟨h.1,λρ w vs F E=>h.2 ρ w vs F (I.rep E)⟩
theorem W_tail2 {G:Glob} {P:Program} {a b X:SCode} {Q:Exit->Env->Store->Prop} {D:Tag Q} {env:Env} {σ:Store} (h:∀Y,Y=X->W G P (.seq a (.seq b Y)) Q env σ ⟨⟩):W G P (.seq a (.seq b X)) Q env σ D:=h X rfl
section
variable {G:Glob} {P:Program} {env:Env} {σ:Store} {K:Env->Store->Prop} {tK:Tag K}
end
def insPt (u:U) (p:List Stp) (wh:Int):(Idd×Nat) ⊕ Int:=
 if (one u p).2≠0 then .inr (one u p).2 else match spot u (one u p).1 wh with|none=>.inr 9|some q=>.inl q
section
variable (G:Glob)
set_option maxHeartbeats 4000000 in
theorem f232 (u:U) (p:List Stp) (wh:Int) (hs:u.Short) (hN:u.flat.length<=1024) (hn:u.ids.Nodup) (hk:∀i q,aF i u=some q->q.2.2<1000000) (hp:p.length<1000000) (Y:0<=wh) (h3:wh<=3):
  Pure G Tryz.prog 232 [.agg u.cs,.lst 2 (p.map Stp.cs),.int .i64 wh] (cI (insPt u p wh)):=by
 obtain⟨w,rfl⟩:=Int.eq_ofNat_of_zero_le Y
 have N:w<4:=by omega
 have O:=f43 G u p hs.1 hN hp
 have V:=f233 G (w:Int)
 have Z:=f273 G
 have e1:inR (w:Int) 0 3=true:=by simp[inR];omega
 rw[e1]at V
 unfold lH at O
 have hid:=bZ (u:=u) (p:=p)
 unfold insPt
 obtain⟨⟨i,e⟩,X⟩:∃z,one u p=z:=⟨_,rfl⟩
 rw[X]at O hid ⊢
 simp only at O hid ⊢
 refine Pure.w c232 λR J=>?_
 unfold s232 r232
 rcases Classical.em (e=0)with h|h
 ·subst h
  have M:=lw G u i w Y h3 hs (hid rfl) hn (hk i)
  have I:=nX w N
  simp only[Idd.cs]at M
  rw[if_neg (by simp)]at J
  obtain⟨f,hf⟩:∃f,leadV (w:Int)=f:=⟨_,rfl⟩
  rw[hf]at M I
  rcases hz:spot u i w with _|⟨q,k⟩
  ·rw[hz]at J M
   unfold dh at M
   unfold cI at J
   (repeat' (first|(with_reducible first|refine aa O ?_|refine aa V ?_|refine aa Z ?_)|simp only[EVz,seval,↓reduceIte,EV6,EV7,I,D]|simp only[EVz,seval,↓reduceIte,EV6,EV7,I]|(with_reducible intro T F;(try(have E:=F;simp only[EVK]at E;first|(have D:=AI E D)|(have D:=E))))|(with_reducible first|refine ae ?_ ?_|refine af ?_)|(refine bz (e:=245) (L:=4) (n:=w) rfl rfl (by kernel_rfl) (by kernel_rfl) (by kernel_rfl) rfl N ?_)|(refine aI M ?_)))
   all_goals exact RQ J
  ·rw[hz]at J M
   unfold dh at M
   unfold cI at J
   (repeat' (first|(with_reducible first|refine aa O ?_|refine aa V ?_|refine aa Z ?_)|simp only[EVz,seval,↓reduceIte,EV6,EV7,I,D]|simp only[EVz,seval,↓reduceIte,EV6,EV7,I]|(with_reducible intro T F;(try(have E:=F;simp only[EVK]at E;first|(have D:=AI E D)|(have D:=E))))|(with_reducible first|refine ae ?_ ?_|refine af ?_)|(refine bz (e:=245) (L:=4) (n:=w) rfl rfl (by kernel_rfl) (by kernel_rfl) (by kernel_rfl) rfl N ?_)|(refine aI M ?_)))
   all_goals exact RQ J
 ·rw[if_pos h]at J
  unfold cI at J
  (repeat' (first|(with_reducible (refine ab (λh=>?_) (λh=>?_))<;>(try simp only[DZ]at h))|(with_reducible first|refine aa O ?_|refine aa V ?_)|simp only[EVz,seval,↓reduceIte,EV6,EV7,D]|simp only[EVz,seval,↓reduceIte,EV6,EV7]|(with_reducible intro T F;(try(have E:=F;simp only[EVK]at E;first|(have D:=AI E D)|(have D:=E))))|(with_reducible refine ae ?_ ?_)|(exfalso;omega)))
  all_goals exact RQ J
theorem under_eq (u:U) (i t:Idd):under u i t=(decide (t≠i)&&decide (i∈anc t u)):=by
 unfold under anc
 congr 1
 rw[Bool.eq_iff_iff,any_eq_true,decide_eq_true_eq,mem_reverse,mem_map]
 constructor
 ·rintro⟨y,E,D⟩;exact⟨y,E,of_decide_eq_true D⟩
 ·rintro⟨y,E,D⟩;exact⟨y,E,decide_eq_true D⟩
set_option maxHeartbeats 4000000 in
theorem f234 (u:U) (i t:Idd) (wh:Int) (hs:u.Short) (hN:u.flat.length<=1024) (hn:u.ids.Nodup) (hk:∀i q,aF i u=some q->q.2.2<1000000) (aw:∀q,spot u t wh=some q->q.2<1000000) (hi:i∈u.ids) (ht:t∈u.ids) (h0:0<=wh) (h3:wh<=3):
  Pure G Tryz.prog 234 [.agg u.cs,.agg i.cs,.agg t.cs,.int .i64 wh] (dh (dY u i t wh)):=by
 have Y:=f131 G i u hs hn
 have hA:=f214 G t u hs.1
 have hC:=f152 G (anc t u) i (by
  unfold anc
  rw[length_reverse,length_map,length_dropLast]
  have:=eF t u
  omega)
 have hL:=f273 G
 have hV:=lw G u t wh h0 h3 hs ht hn (hk t)
 have ba:=under_eq u i t
 unfold gW at Y
 unfold dY
 rw[ba]
 obtain⟨w,rfl⟩:=Int.eq_ofNat_of_zero_le h0
 have Z:w<4:=by omega
 have J:=nX w Z
 obtain⟨f,hf⟩:∃f,leadV (w:Int)=f:=⟨_,rfl⟩
 rw[hf]at hV J
 obtain⟨A,an⟩:∃A,anc t u=A:=⟨_,rfl⟩
 rw[an]at hA hC ⊢
 obtain⟨z,hz⟩:∃z,spot u t w=z:=⟨_,rfl⟩
 rw[hz]at aw hV ⊢
 have bh:=hk i
 obtain⟨y,hy⟩:∃y,aF i u=y:=⟨_,rfl⟩
 rw[hy]at Y bh ⊢
 clear hy hz an hf ba hk hn hN hs
 simp only[Idd.cs]at hV hC hA Y
 refine Pure.w c234 λR X=>?_
 unfold s234 r234
 have hb:besides (w:Int)=(decide ((w:Int)=2)||decide ((w:Int)=3)):=by unfold besides;rw[Bool.decide_or]
 have ac:(decide ((w:Int)=2)=true/\besides (w:Int)=true)\/(decide ((w:Int)=2)=false/\decide ((w:Int)=3)=true/\besides (w:Int)=true)\/(decide ((w:Int)=2)=false/\decide ((w:Int)=3)=false/\besides (w:Int)=false):=by
  rw[hb];cases decide ((w:Int)=2)<;>cases decide ((w:Int)=3)<;>simp
 rcases Classical.em (t=i)with hti|hti
 ·have O:decide (t=i)=true:=decide_eq_true hti
  have T:decide (t≠i)=false:=decide_eq_false (λh=>h hti)
  have I:(!decide (t=i))=false:=by rw[O];rfl
  rcases y with _|⟨own,d,j⟩
  ·rcases ac with⟨M,N⟩|⟨M,N,b3⟩|⟨M,N,b3⟩
   ·(repeat' (first|(with_reducible refine aa Y ?_)|simp only[EVz,seval,↓reduceIte,EV6,EV7,gv,O,T,I,M,D]|simp only[EVz,seval,↓reduceIte,EV6,EV7,gv,O,T,I,M]|(with_reducible intro V F;(try(have E:=F;simp only[EVK]at E;first|(have D:=AI E D)|(have D:=E))))))
    all_goals exact RQ X
   ·(repeat' (first|(with_reducible refine aa Y ?_)|simp only[EVz,seval,↓reduceIte,EV6,EV7,gv,O,T,I,M,N,D]|simp only[EVz,seval,↓reduceIte,EV6,EV7,gv,O,T,I,M,N]|(with_reducible intro V F;(try(have E:=F;simp only[EVK]at E;first|(have D:=AI E D)|(have D:=E))))))
    all_goals exact RQ X
   ·(repeat' (first|(with_reducible refine aa Y ?_)|simp only[EVz,seval,↓reduceIte,EV6,EV7,gv,O,T,I,M,N,D]|simp only[EVz,seval,↓reduceIte,EV6,EV7,gv,O,T,I,M,N]|(with_reducible intro V F;(try(have E:=F;simp only[EVK]at E;first|(have D:=AI E D)|(have D:=E))))))
    all_goals exact RQ X
  ·simp only[T,Bool.false_and,Bool.false_eq_true,false_or]at X
   rcases ac with⟨M,N⟩|⟨M,N,b3⟩|⟨M,N,b3⟩
   ·rw[if_neg (by rw[N];simp),if_pos hti]at X
    (repeat' (first|(with_reducible refine aa Y ?_)|simp only[EVz,seval,↓reduceIte,EV6,EV7,gv,O,T,I,M,D]|simp only[EVz,seval,↓reduceIte,EV6,EV7,gv,O,T,I,M]|(with_reducible intro V F;(try(have E:=F;simp only[EVK]at E;first|(have D:=AI E D)|(have D:=E))))))
    all_goals exact RQ X
   ·rw[if_neg (by rw[b3];simp),if_pos hti]at X
    (repeat' (first|(with_reducible refine aa Y ?_)|simp only[EVz,seval,↓reduceIte,EV6,EV7,gv,O,T,I,M,N,D]|simp only[EVz,seval,↓reduceIte,EV6,EV7,gv,O,T,I,M,N]|(with_reducible intro V F;(try(have E:=F;simp only[EVK]at E;first|(have D:=AI E D)|(have D:=E))))))
    all_goals exact RQ X
   ·rw[if_pos ⟨hti,b3⟩]at X
    (repeat' (first|(with_reducible refine aa Y ?_)|simp only[EVz,seval,↓reduceIte,EV6,EV7,gv,O,T,I,M,N,D]|simp only[EVz,seval,↓reduceIte,EV6,EV7,gv,O,T,I,M,N]|(with_reducible intro V F;(try(have E:=F;simp only[EVK]at E;first|(have D:=AI E D)|(have D:=E))))))
    all_goals exact RQ X
 ·have O:decide (t=i)=false:=decide_eq_false hti
  have T:decide (t≠i)=true:=decide_eq_true hti
  have I:(!decide (t=i))=true:=by rw[O];rfl
  rcases y with _|⟨own,d,j⟩
  ·obtain⟨bb,ah⟩:∃bb,decide (i∈A)=bb:=⟨_,rfl⟩
   rw[ah]at hC
   rcases ac with⟨M,N⟩|⟨M,N,b3⟩|⟨M,N,b3⟩
   ·(repeat' (first|(with_reducible first|refine aa Y ?_|refine aa hA ?_|refine aa hC ?_)|simp only[EVz,seval,↓reduceIte,EV6,EV7,gv,O,T,I,M,D]|simp only[EVz,seval,↓reduceIte,EV6,EV7,gv,O,T,I,M]|(with_reducible intro V F;(try(have E:=F;simp only[EVK]at E;first|(have D:=AI E D)|(have D:=E))))))
    all_goals exact RQ X
   ·(repeat' (first|(with_reducible first|refine aa Y ?_|refine aa hA ?_|refine aa hC ?_)|simp only[EVz,seval,↓reduceIte,EV6,EV7,gv,O,T,I,M,N,D]|simp only[EVz,seval,↓reduceIte,EV6,EV7,gv,O,T,I,M,N]|(with_reducible intro V F;(try(have E:=F;simp only[EVK]at E;first|(have D:=AI E D)|(have D:=E))))))
    all_goals exact RQ X
   ·(repeat' (first|(with_reducible first|refine aa Y ?_|refine aa hA ?_|refine aa hC ?_)|simp only[EVz,seval,↓reduceIte,EV6,EV7,gv,O,T,I,M,N,D]|simp only[EVz,seval,↓reduceIte,EV6,EV7,gv,O,T,I,M,N]|(with_reducible intro V F;(try(have E:=F;simp only[EVK]at E;first|(have D:=AI E D)|(have D:=E))))))
    all_goals exact RQ X
  ·simp only[T,Bool.true_and,hti,false_and,or_false,if_false]at X
   cases ah:decide (i∈A)with
   |true=>
    rw[ah]at hC X
    rw[if_pos rfl]at X
    rcases ac with⟨M,N⟩|⟨M,N,b3⟩|⟨M,N,b3⟩
    ·(repeat' (first|(with_reducible first|refine aa Y ?_|refine aa hA ?_|refine aa hC ?_)|simp only[EVz,seval,↓reduceIte,EV6,EV7,gv,O,T,I,M,D]|simp only[EVz,seval,↓reduceIte,EV6,EV7,gv,O,T,I,M]|(with_reducible intro V F;(try(have E:=F;simp only[EVK]at E;first|(have D:=AI E D)|(have D:=E))))))
     all_goals exact RQ X
    ·(repeat' (first|(with_reducible first|refine aa Y ?_|refine aa hA ?_|refine aa hC ?_)|simp only[EVz,seval,↓reduceIte,EV6,EV7,gv,O,T,I,M,N,D]|simp only[EVz,seval,↓reduceIte,EV6,EV7,gv,O,T,I,M,N]|(with_reducible intro V F;(try(have E:=F;simp only[EVK]at E;first|(have D:=AI E D)|(have D:=E))))))
     all_goals exact RQ X
    ·(repeat' (first|(with_reducible first|refine aa Y ?_|refine aa hA ?_|refine aa hC ?_)|simp only[EVz,seval,↓reduceIte,EV6,EV7,gv,O,T,I,M,N,D]|simp only[EVz,seval,↓reduceIte,EV6,EV7,gv,O,T,I,M,N]|(with_reducible intro V F;(try(have E:=F;simp only[EVK]at E;first|(have D:=AI E D)|(have D:=E))))))
     all_goals exact RQ X
   |false=>
    rw[ah]at hC X
    rw[if_neg (by simp)]at X
    rcases z with _|⟨q,k⟩
    ·unfold dh at hV
     rcases ac with⟨M,N⟩|⟨M,N,b3⟩|⟨M,N,b3⟩
     ·(repeat' (first|(with_reducible first|refine aa Y ?_|refine aa hA ?_|refine aa hC ?_|refine aa hL ?_)|simp only[EVz,seval,↓reduceIte,EV6,EV7,gv,O,T,I,M,J,D]|simp only[EVz,seval,↓reduceIte,EV6,EV7,gv,O,T,I,M,J]|(with_reducible intro V F;(try(have E:=F;simp only[EVK]at E;first|(have D:=AI E D)|(have D:=E))))|(with_reducible first|refine ae ?_ ?_|refine af ?_)|(refine bz (e:=245) (L:=4) (n:=w) rfl rfl (by kernel_rfl) (by kernel_rfl) (by kernel_rfl) rfl Z ?_)|(refine aI hV ?_)))
      all_goals exact RQ X
     ·(repeat' (first|(with_reducible first|refine aa Y ?_|refine aa hA ?_|refine aa hC ?_|refine aa hL ?_)|simp only[EVz,seval,↓reduceIte,EV6,EV7,gv,O,T,I,M,N,J,D]|simp only[EVz,seval,↓reduceIte,EV6,EV7,gv,O,T,I,M,N,J]|(with_reducible intro V F;(try(have E:=F;simp only[EVK]at E;first|(have D:=AI E D)|(have D:=E))))|(with_reducible first|refine ae ?_ ?_|refine af ?_)|(refine bz (e:=245) (L:=4) (n:=w) rfl rfl (by kernel_rfl) (by kernel_rfl) (by kernel_rfl) rfl Z ?_)|(refine aI hV ?_)))
      all_goals exact RQ X
     ·(repeat' (first|(with_reducible first|refine aa Y ?_|refine aa hA ?_|refine aa hC ?_|refine aa hL ?_)|simp only[EVz,seval,↓reduceIte,EV6,EV7,gv,O,T,I,M,N,J,D]|simp only[EVz,seval,↓reduceIte,EV6,EV7,gv,O,T,I,M,N,J]|(with_reducible intro V F;(try(have E:=F;simp only[EVK]at E;first|(have D:=AI E D)|(have D:=E))))|(with_reducible first|refine ae ?_ ?_|refine af ?_)|(refine bz (e:=245) (L:=4) (n:=w) rfl rfl (by kernel_rfl) (by kernel_rfl) (by kernel_rfl) rfl Z ?_)|(refine aI hV ?_)))
      all_goals exact RQ X
    ·unfold dh at hV
     have be:=aw _ rfl
     simp only at be
     simp only[Option.map_some]at X
     cases q1:decide (q=own.id)with
     |false=>
      have al:=of_decide_eq_false q1
      rw[if_neg (λh=>al h.1)]at X
      rcases ac with⟨M,N⟩|⟨M,N,b3⟩|⟨M,N,b3⟩
      ·(repeat' (first|(with_reducible first|refine aa Y ?_|refine aa hA ?_|refine aa hC ?_|refine aa hL ?_)|simp only[EVz,seval,↓reduceIte,EV6,EV7,gv,O,T,I,M,J,q1,D]|simp only[EVz,seval,↓reduceIte,EV6,EV7,gv,O,T,I,M,J,q1]|(with_reducible intro V F;(try(have E:=F;simp only[EVK]at E;first|(have D:=AI E D)|(have D:=E))))|(with_reducible first|refine ae ?_ ?_|refine af ?_)|(refine bz (e:=245) (L:=4) (n:=w) rfl rfl (by kernel_rfl) (by kernel_rfl) (by kernel_rfl) rfl Z ?_)|(refine aI hV ?_)))
       all_goals exact RQ X
      ·(repeat' (first|(with_reducible first|refine aa Y ?_|refine aa hA ?_|refine aa hC ?_|refine aa hL ?_)|simp only[EVz,seval,↓reduceIte,EV6,EV7,gv,O,T,I,M,N,J,q1,D]|simp only[EVz,seval,↓reduceIte,EV6,EV7,gv,O,T,I,M,N,J,q1]|(with_reducible intro V F;(try(have E:=F;simp only[EVK]at E;first|(have D:=AI E D)|(have D:=E))))|(with_reducible first|refine ae ?_ ?_|refine af ?_)|(refine bz (e:=245) (L:=4) (n:=w) rfl rfl (by kernel_rfl) (by kernel_rfl) (by kernel_rfl) rfl Z ?_)|(refine aI hV ?_)))
       all_goals exact RQ X
      ·(repeat' (first|(with_reducible first|refine aa Y ?_|refine aa hA ?_|refine aa hC ?_|refine aa hL ?_)|simp only[EVz,seval,↓reduceIte,EV6,EV7,gv,O,T,I,M,N,J,q1,D]|simp only[EVz,seval,↓reduceIte,EV6,EV7,gv,O,T,I,M,N,J,q1]|(with_reducible intro V F;(try(have E:=F;simp only[EVK]at E;first|(have D:=AI E D)|(have D:=E))))|(with_reducible first|refine ae ?_ ?_|refine af ?_)|(refine bz (e:=245) (L:=4) (n:=w) rfl rfl (by kernel_rfl) (by kernel_rfl) (by kernel_rfl) rfl Z ?_)|(refine aI hV ?_)))
       all_goals exact RQ X
     |true=>
      have al:=of_decide_eq_true q1
      cases q2:decide ((j:Int)<(k:Int))with
      |false=>
       have bd:=of_decide_eq_false q2
       rw[if_neg (λh=>bd (by omega))]at X
       rcases ac with⟨M,N⟩|⟨M,N,b3⟩|⟨M,N,b3⟩
       ·(repeat' (first|(with_reducible first|refine aa Y ?_|refine aa hA ?_|refine aa hC ?_|refine aa hL ?_)|simp only[EVz,seval,↓reduceIte,EV6,EV7,gv,O,T,I,M,J,q1,q2,D]|simp only[EVz,seval,↓reduceIte,EV6,EV7,gv,O,T,I,M,J,q1,q2]|(with_reducible intro V F;(try(have E:=F;simp only[EVK]at E;first|(have D:=AI E D)|(have D:=E))))|(with_reducible first|refine ae ?_ ?_|refine af ?_)|(refine bz (e:=245) (L:=4) (n:=w) rfl rfl (by kernel_rfl) (by kernel_rfl) (by kernel_rfl) rfl Z ?_)|(refine aI hV ?_)))
        all_goals exact RQ X
       ·(repeat' (first|(with_reducible first|refine aa Y ?_|refine aa hA ?_|refine aa hC ?_|refine aa hL ?_)|simp only[EVz,seval,↓reduceIte,EV6,EV7,gv,O,T,I,M,N,J,q1,q2,D]|simp only[EVz,seval,↓reduceIte,EV6,EV7,gv,O,T,I,M,N,J,q1,q2]|(with_reducible intro V F;(try(have E:=F;simp only[EVK]at E;first|(have D:=AI E D)|(have D:=E))))|(with_reducible first|refine ae ?_ ?_|refine af ?_)|(refine bz (e:=245) (L:=4) (n:=w) rfl rfl (by kernel_rfl) (by kernel_rfl) (by kernel_rfl) rfl Z ?_)|(refine aI hV ?_)))
        all_goals exact RQ X
       ·(repeat' (first|(with_reducible first|refine aa Y ?_|refine aa hA ?_|refine aa hC ?_|refine aa hL ?_)|simp only[EVz,seval,↓reduceIte,EV6,EV7,gv,O,T,I,M,N,J,q1,q2,D]|simp only[EVz,seval,↓reduceIte,EV6,EV7,gv,O,T,I,M,N,J,q1,q2]|(with_reducible intro V F;(try(have E:=F;simp only[EVK]at E;first|(have D:=AI E D)|(have D:=E))))|(with_reducible first|refine ae ?_ ?_|refine af ?_)|(refine bz (e:=245) (L:=4) (n:=w) rfl rfl (by kernel_rfl) (by kernel_rfl) (by kernel_rfl) rfl Z ?_)|(refine aI hV ?_)))
        all_goals exact RQ X
      |true=>
       have bd:=of_decide_eq_true q2
       rw[if_pos ⟨al,by omega⟩]at X
       have ew:IntKind.i64.wrap ((k:Int)-1)=((k-1:Nat):Int):=by rw[aA (by omega) (by omega)];omega
       rcases ac with⟨M,N⟩|⟨M,N,b3⟩|⟨M,N,b3⟩
       ·(repeat' (first|(with_reducible first|refine aa Y ?_|refine aa hA ?_|refine aa hC ?_|refine aa hL ?_)|simp only[EVz,seval,↓reduceIte,EV6,EV7,gv,O,T,I,M,J,q1,q2,ew,D]|simp only[EVz,seval,↓reduceIte,EV6,EV7,gv,O,T,I,M,J,q1,q2,ew]|(with_reducible intro V F;(try(have E:=F;simp only[EVK]at E;first|(have D:=AI E D)|(have D:=E))))|(with_reducible first|refine ae ?_ ?_|refine af ?_)|(refine bz (e:=245) (L:=4) (n:=w) rfl rfl (by kernel_rfl) (by kernel_rfl) (by kernel_rfl) rfl Z ?_)|(refine aI hV ?_)))
        all_goals exact RQ X
       ·(repeat' (first|(with_reducible first|refine aa Y ?_|refine aa hA ?_|refine aa hC ?_|refine aa hL ?_)|simp only[EVz,seval,↓reduceIte,EV6,EV7,gv,O,T,I,M,N,J,q1,q2,ew,D]|simp only[EVz,seval,↓reduceIte,EV6,EV7,gv,O,T,I,M,N,J,q1,q2,ew]|(with_reducible intro V F;(try(have E:=F;simp only[EVK]at E;first|(have D:=AI E D)|(have D:=E))))|(with_reducible first|refine ae ?_ ?_|refine af ?_)|(refine bz (e:=245) (L:=4) (n:=w) rfl rfl (by kernel_rfl) (by kernel_rfl) (by kernel_rfl) rfl Z ?_)|(refine aI hV ?_)))
        all_goals exact RQ X
       ·(repeat' (first|(with_reducible first|refine aa Y ?_|refine aa hA ?_|refine aa hC ?_|refine aa hL ?_)|simp only[EVz,seval,↓reduceIte,EV6,EV7,gv,O,T,I,M,N,J,q1,q2,ew,D]|simp only[EVz,seval,↓reduceIte,EV6,EV7,gv,O,T,I,M,N,J,q1,q2,ew]|(with_reducible intro V F;(try(have E:=F;simp only[EVK]at E;first|(have D:=AI E D)|(have D:=E))))|(with_reducible first|refine ae ?_ ?_|refine af ?_)|(refine bz (e:=245) (L:=4) (n:=w) rfl rfl (by kernel_rfl) (by kernel_rfl) (by kernel_rfl) rfl Z ?_)|(refine aI hV ?_)))
        all_goals exact RQ X
end
theorem dest_ins (u:U) (x:Itm) (h:x.kind=0):dest u x=insPt u x.at_ x.wh:=by
 unfold dest insPt
 split
 ·rfl
 ·rfl
section
variable (G:Glob)
set_option maxHeartbeats 4000000 in
theorem f144 (u:U) (x:Itm) (hs:u.Short) (hN:u.flat.length<=1024) (hn:u.ids.Nodup) (hk:∀i q,aF i u=some q->q.2.2<1000000) (an:∀i w q,spot u i w=some q->q.2<1000000) (al:x.kind=0\/x.kind=6) (h0:0<=x.wh) (h3:x.wh<=3) (hp:x.at_.length<1000000) (aw:x.to_.length<1000000):
  Pure G Tryz.prog 144 [.agg u.cs,.agg x.cs] (cI (dest u x)):=by
 have Y:=f43 G u x.at_ hs.1 hN hp
 have N:=f43 G u x.to_ hs.1 hN aw
 have hI:=f232 G u x.at_ x.wh hs hN hn hk hp h0 h3
 have Z:=f233 G x.wh
 have e1:inR x.wh 0 3=true:=by simp[inR];omega
 rw[e1]at Z
 rw[Itm.cs_eq x]
 refine Pure.w c144 λR I=>?_
 unfold s144 r144
 rcases al with h|h
 ·rw[dest_ins u x h]at I
  have M:decide (x.kind=0)=true:=decide_eq_true h
  obtain⟨z,hz⟩:∃z,insPt u x.at_ x.wh=z:=⟨_,rfl⟩
  rw[hz]at hI I
  unfold cI at hI I
  rcases z with⟨q,k⟩|e
  ·(repeat' (first|(with_reducible refine aa hI ?_)|simp only[EVz,seval,↓reduceIte,EV6,EV7,M,E]|simp only[EVz,seval,↓reduceIte,EV6,EV7,M]|(with_reducible intro O F;(try(have D:=F;simp only[EVK]at D;(have E:=D))))))
   all_goals exact RQ I
  ·(repeat' (first|(with_reducible refine aa hI ?_)|simp only[EVz,seval,↓reduceIte,EV6,EV7,M,E]|simp only[EVz,seval,↓reduceIte,EV6,EV7,M]|(with_reducible intro O F;(try(have D:=F;simp only[EVK]at D;(have E:=D))))))
   all_goals exact RQ I
 ·have M:decide (x.kind=0)=false:=decide_eq_false (by omega)
  have X:decide (x.kind=6)=true:=decide_eq_true h
  have J:decide (x.kind≠6)=false:=decide_eq_false (by omega)
  unfold lH at Y N
  unfold dest at I
  rw[if_neg (show ¬x.kind=0 by omega)]at I
  have hid:=bZ (u:=u) (p:=x.at_)
  have V:=bZ (u:=u) (p:=x.to_)
  obtain⟨⟨i,e⟩,ah⟩:∃z,one u x.at_=z:=⟨_,rfl⟩
  obtain⟨⟨t,e'⟩,ac⟩:∃z,one u x.to_=z:=⟨_,rfl⟩
  rw[ah]at Y hid I
  rw[ac]at N V I
  simp only at Y N hid V I
  rcases Classical.em (e=0)with g|g
  ·subst g
   rw[if_neg (by simp)]at I
   rcases Classical.em (e'=0)with g'|g'
   ·subst g'
    rw[if_neg (by simp)]at I
    have T:=f234 G u i t x.wh hs hN hn hk (an t x.wh) (hid rfl) (V rfl) h0 h3
    simp only[Idd.cs]at T
    obtain⟨z,hz⟩:∃z,dY u i t x.wh=z:=⟨_,rfl⟩
    rw[hz]at T I
    unfold dh at T
    unfold cI at I
    rcases z with _|⟨q,k⟩
    ·(repeat' (first|(with_reducible first|refine aa Y ?_|refine aa N ?_|refine aa Z ?_|refine aa T ?_)|simp only[EVz,seval,↓reduceIte,EV6,EV7,M,X,J,E]|simp only[EVz,seval,↓reduceIte,EV6,EV7,M,X,J]|(with_reducible intro O F;(try(have D:=F;simp only[EVK]at D;first|(have E:=AI D E)|(have E:=D))))))
     all_goals exact RQ I
    ·(repeat' (first|(with_reducible first|refine aa Y ?_|refine aa N ?_|refine aa Z ?_|refine aa T ?_)|simp only[EVz,seval,↓reduceIte,EV6,EV7,M,X,J,E]|simp only[EVz,seval,↓reduceIte,EV6,EV7,M,X,J]|(with_reducible intro O F;(try(have D:=F;simp only[EVK]at D;first|(have E:=AI D E)|(have E:=D))))|(with_reducible first|refine ae ?_ ?_|refine af ?_)))
     all_goals exact RQ I
   ·rw[if_pos g']at I
    have g2:decide (e'=0)=false:=decide_eq_false g'
    unfold cI at I
    (repeat' (first|(with_reducible (refine ab (λh=>?_) (λh=>?_))<;>(try simp only[DZ]at h))|(with_reducible first|refine aa Y ?_|refine aa N ?_|refine aa Z ?_)|simp only[EVz,seval,↓reduceIte,EV6,EV7,M,X,J,g',E]|simp only[EVz,seval,↓reduceIte,EV6,EV7,M,X,J,g']|(with_reducible intro O F;(try(have D:=F;simp only[EVK]at D;first|(have E:=AI D E)|(have E:=D))))|(exfalso;omega)))
    all_goals exact RQ I
  ·rw[if_pos g]at I
   unfold cI at I
   (repeat' (first|(with_reducible (refine ab (λh=>?_) (λh=>?_))<;>(try simp only[DZ]at h))|(with_reducible first|refine aa Y ?_|refine aa Z ?_)|simp only[EVz,seval,↓reduceIte,EV6,EV7,M,X,J,g,E]|simp only[EVz,seval,↓reduceIte,EV6,EV7,M,X,J,g]|(with_reducible intro O F;(try(have D:=F;simp only[EVK]at D;first|(have E:=AI D E)|(have E:=D))))|(exfalso;omega)))
   all_goals exact RQ I
end
def U.csv (x:U) (v:AV):List AV:=[.int .i64 x.id.act,.int .i64 x.id.item,.int .i64 x.id.n,.int .i64 x.kind,.str x.label,.lst 4 (x.head.map Wd.cs),.lst 4 (x.words.map Wd.cs),v]
def jA (G:Glob) (f:Value) (g:U->U) (σ:Store) (x:U):Prop:=
 ∀b v κ,bD 27 8 (x.kids.map U.cs) v κ->(Store.keys ((b,AObj.cells 27 (x.csv v))::(σ++κ))).Nodup->
  cd G Tryz.prog f [.sc (.pointer (some ⟨b,0,none⟩))] ((b,.cells 27 (x.csv v))::(σ++κ)) (λr σ'=>∃E D,bD 27 8 ((g x).kids.map U.cs) E D/\σ'=(b,.cells 27 ((g x).csv E))::(σ++D))
theorem U.csv_frz {x:U} {v:AV} {κ:Store} (h:bD 27 8 (x.kids.map U.cs) v κ):FrzL κ (x.csv v) x.cs:=by
 rw[U.cs_eq]
 exact⟨.inl rfl,.inl rfl,.inl rfl,.inl rfl,.inl rfl,.inl rfl,.inl rfl,.inr ⟨27,8,_,_,h,λq D=>D,rfl⟩,trivial⟩
theorem nA {i:Idd} {us a b:List U} {k:U} (e:us=a++k::b) (D:(U.idss us).Nodup) (hi:i∈k.ids):Split i us a k b:=by
 subst e
 have e:U.idss (a++k::b)=U.idss a++(k.ids++U.idss b):=by
  induction a with
  |nil=>rw[nil_append,U.idss_cons,U.idss_nil];rfl
  |cons x a ih=>
   rw[cons_append,U.idss_cons,U.idss_cons]
   rw[cons_append,U.idss_cons]at D
   rw[ih (nodup_append.1 D).2.1,append_assoc]
 rw[e]at D
 obtain⟨M,E,F⟩:=nodup_append.1 D
 obtain⟨I,N,J⟩:=nodup_append.1 E
 exact⟨rfl,hi,λh=>F i h i (mem_append.2 (.inl hi)) rfl,λh=>J i hi i h rfl,I⟩
theorem lJ {i:Idd} {u:U} {a b:List U} {k:U} (h:u.id≠i) (s:Split i u.kids a k b):fnd i u=fnd i k:=by
 unfold Go.Av.fnd
 rw[s.way h]
 have:=gH s.mem
 cases D:U.way i k<;>simp_all[getLastD_cons]
theorem SubN.comm5 {a b c d e:Nat×AObj} {σ:Store}:SubN (c::d::e::σ) (σ++[a,b,c,d,e]):=
 SubN.trans (SubN.tail (SubN.tail (SubN.refl _) _) _) (SubN.perm (perm_append_comm (l₁:=[a,b,c,d,e]) (l₂:=σ)))
theorem nd_pull {κ σ:Store} {p b:Nat} {A B C:AObj} (h:(κ++(p,A)::(b,B)::σ:Store).keys.Nodup):(Store.keys ((b,C)::(σ++κ))).Nodup:=by
 have:=(SubN.trans (SubN.cons (SubN.perm perm_append_comm) _) (SubN.trans (SubN.cons (SubN.tail (SubN.refl _) _) _) SubN.pull2')).2 h
 simpa[Store.keys]using this
section
variable (G:Glob)
set_option maxHeartbeats 4000000 in
theorem f153 (f:Value) (g:U->U) (σ:Store) (i:Idd):∀(u:U),u.Short->u.ids.Nodup->i∈u.ids->jA G f g σ (fnd i u)->
  ag G Tryz.prog 153 [.agg u.cs,.agg i.cs,.sc f] σ (λr σ'=>r= .agg (U.wth i g u).cs/\σ'=σ):=by
 refine U.ind λu ih hs hn hi hD=>?_
 have d4:=hs.1.kids
 have bd:=f203 G (u.kids.map U.cs) (dZ _) (by rw[length_map];omega)
 refine ag.freezeK (R1:=λσ'=>σ'=σ) ?_
 refine ag.w c153 ?_
 unfold s153 r153
 by_cases Z:u.id=i
 ·have e0:decide (u.id=i)=true:=decide_eq_true Z
  have bx:fnd i u=u:=aB (by rw[aN Z];rfl)
  rw[bx]at hD
  rw[bA Z,U.cs_eq u]
  (repeat' (first|simp only[EVz,seval,↓reduceIte,EV6,EV7,gv,e0,D]|simp only[EVz,seval,↓reduceIte,EV6,EV7,gv,e0]|(with_reducible intro E F;(try(have I:=F;simp only[EVK]at I;(have D:=I))))))
  rename_i O bw
  refine aT [] ((E,_)::(O,_)::σ) bd.v (ax.rfl' _) (SubN.refl _) (λv κ ho T=>⟨_,SubN.pull2',?_⟩)
  have hv:=ho
  obtain⟨bb,cap,rfl,_⟩:=hv
  have q1:¬O=E:=λe=>D.1 e.symm
  (repeat' (simp only[EVz,seval,↓reduceIte,EV6,EV7,q1,D]))
  rw[length_map]at ho
  have be:=hD O _ κ ho (nd_pull T)
  simp only[U.csv]at be
  refine aT ((O,_)::(σ++κ)) [(E,_)] be (ax.rfl' _) SubN.push' (λr dc hr bl=>?_)
  obtain⟨v2,bq,al,rfl⟩:=hr
  refine⟨_,SubN.pop',?_⟩
  have hv:=al
  obtain⟨bu,d1,rfl,_⟩:=hv
  (repeat' (simp only[EVz,seval,↓reduceIte,EV6,EV7,q1,D]))
  rw[length_map]at al
  refine RET.mk' (σ':=bq++σ) (SubN.tail (SubN.tail (SubN.refl _) _) _) ⟨_,bq,σ,rfl,U.csv_frz al,rfl,rfl⟩
 ·have e0:decide (u.id=i)=false:=decide_eq_false Z
  have ah:i∈U.idss u.kids:=by
   rw[U.ids_eq,mem_cons]at hi
   exact hi.resolve_left (Ne.symm Z)
  have bm:u.kids≠[]:=by intro h;rw[h,U.idss_nil]at ah;cases ah
  have cw:=(U.nd_kids hn).1
  rw[U.cs_eq u]
  (repeat' (first|simp only[EVz,seval,↓reduceIte,EV6,EV7,gv,e0,D]|simp only[EVz,seval,↓reduceIte,EV6,EV7,gv,e0]|(with_reducible intro E F;(try(have I:=F;simp only[EVK]at I;(have D:=I))))))
  rename_i O bw
  refine aT [] ((E,_)::(O,_)::σ) bd.v (ax.rfl' _) (SubN.refl _) (λv κ ho T=>⟨_,SubN.pull2',?_⟩)
  have hv:=ho
  obtain⟨bb,cap,rfl,hv⟩:=hv
  rw[length_map]at ho
  rcases hv with⟨h1,_⟩|⟨Y,pad,rfl,rfl,g1,g2,g3,g4⟩
  ·exact absurd (map_eq_nil_iff.1 h1) bm
  have q1:¬O=E:=λe=>D.1 e.symm
  have q0:¬E=O:=D.1
  simp[Store.keys]at T
  have q2:¬Y=E:=T.1.1
  have q3:¬Y=O:=T.1.2.1
  have aw:¬E=Y:=λe=>q2 e.symm
  have ba:¬O=Y:=λe=>q3 e.symm
  rw[length_map]at g1
  (repeat' (first|simp only[EVz,seval,↓reduceIte,EV6,EV7,length_map,J.yes,J.le0,J.lt',J.get,J.row,hw]|simp only[EVz,seval,↓reduceIte,EV6,EV7,length_map,hn]|(refine ay u.kids (λM r (c:Unit)=>i∈U.idss r) (λM c=>[(2,.sc f),(3,.sc (.pointer (some ⟨O,0,none⟩))),(4,.ref i.cs),(6,.sc (.pointer (some ⟨E,0,none⟩))),(7,.sc (.slice (some ⟨Y,0,none⟩) u.kids.length cap)),(26,.sc (.slice (some ⟨Y,0,none⟩) u.kids.length cap)),(27,.int .i64 u.kids.length),(28,.int .i64 M)]) (λM c=>[(O,.cells 27 (U.csv u (.lst 8 (u.kids.map U.cs)))),(E,.cells 27 [.int .i64 0,.int .i64 0,.int .i64 0,.int .i64 0,.str [],.nil,.nil,.nil]),(Y,.cells 27 ((u.kids.map U.cs).flatten++pad))]++σ) () ah (Weak.rfl' _ _) (by omega) (λM x r c V J hw=>?_) (λc V hn=>?_))))
  ·have N:=J.lt
   have an:u.kids[M]? =some x:=by rw[getElem?_eq_getElem N,←J.get x];simp[N]
   have cm:(u.kids.map U.cs)[M]? =some x.cs:=by rw[getElem?_map,an];rfl
   have ac:(((u.kids.map U.cs).flatten++pad).drop (0+M*8)).take 8=x.cs:=by simpa using jI (pad:=pad) g3 cm
   have d2:8<=(((u.kids.map U.cs).flatten++pad).drop (0+M*8)).length:=by
    rw[length_drop,g4];omega
   have d3:0+M*8+8<=((u.kids.map U.cs).flatten++pad).length:=by
    rw[g4];omega
   have hF:=f44 G i x (hs.kid J.mem)
   unfold gV at hF
   simp only[Idd.cs]at hF
   by_cases X:i∈x.ids
   ·rw[fG X,if_neg (by simp)]at hF
    have bh:u.kids=u.kids.take M++x::u.kids.drop (M+1):=by
     have h3:u.kids.drop M=x::u.kids.drop (M+1):=by
      rw[drop_eq_getElem_cons N]
      congr 1
      rw[getElem?_eq_getElem N]at an
      exact Option.some.inj an
     rw[←h3,take_append_drop]
    have sp:=nA bh cw X
    have ch:=lJ Z sp
    clear bh
    have bi:=ih x J.mem (hs.kid J.mem) sp.nd X (by rw[←ch];exact hD)
    have bp:=sp.wth (f:=g) Z
    have bo:aH ((u.kids.map U.cs).flatten++pad) (0+M*8) (U.wth i g x).cs=((u.kids.set M (U.wth i g x)).map U.cs).flatten++pad:=by
     rw[map_set]
     simpa using iK (pad:=pad) g3 (by rw[length_map];exact N) (U.cs_len _)
    have cp:u.kids.take M++U.wth i g x::u.kids.drop (M+1)=u.kids.set M (U.wth i g x):=by
     rw[set_eq_take_append_cons_drop,if_pos N]
    rw[cp]at bp
    simp only[Idd.cs]at bi
    (repeat' (first|(with_reducible first|refine AI (by omega) ?_|refine aa hF ?_)|simp only[EVz,seval,↓reduceIte,EV6,EV7,J.yes,J.le0,J.lt',J.get,hw,ac,q0,q1,q2,q3,aw,ba,D]|(with_reducible intro E F;(try(have I:=F;simp only[EVK]at I;(have D:=AI I D))))))
    refine aT σ [_,_,_,_,_] bi.v (ax.rfl' _) (SubN.perm (perm_append_comm (l₁:=σ) (l₂:=[_,_,_,_,_]))) (λr1 bs hr bl=>?_)
    obtain⟨rfl,rfl⟩:=hr
    refine⟨_,SubN.comm5,?_⟩
    (repeat' (first|(with_reducible refine AI (by omega) ?_)|simp only[EVz,seval,↓reduceIte,EV6,EV7,J.yes,J.le0,J.lt',J.get,hw,ac,bo,q0,q1,q2,q3,aw,ba,U.csv,D]))
    refine RET.mk' (σ':=[(Y,_)]++bs) (SubN.tail (SubN.tail (SubN.refl _) _) _) ⟨_,[(Y,_)],bs,rfl,?_,rfl,rfl⟩
    rw[bp]
    refine U.csv_frz (x:={u with kids:=u.kids.set M (U.wth i g x)}) (bD.mk (by rw[length_map,length_set]) (by rw[length_map,length_set];exact g1) g2 (dZ _) ?_)
    rw[←g4,length_append,length_append,au _ (dZ _),au _ (dZ _),length_map,length_map,length_set]
   ·have d0:(U.way i x).isEmpty=true:=by rw[(cO x).2 X];rfl
    rw[d0,if_pos rfl]at hF
    rw[U.idss_cons,mem_append]at V
    have bn:=V.resolve_left X
    (repeat' (first|(with_reducible first|refine AI (by omega) ?_|refine aa hF ?_)|simp only[EVz,seval,↓reduceIte,EV6,EV7,J.yes,J.le0,J.lt',J.get,hw,ac,q0,q1,q2,q3,aw,ba,D]|(with_reducible intro E F;(try(have I:=F;simp only[EVK]at I;(have D:=AI I D))))))
    exact ap J () bn (Weak.sub (SubN.tail (SubN.tail (SubN.refl _) _) _))
  ·rw[U.idss_nil]at V;cases V
end
theorem SubN.ins1 {t a b c:Nat×AObj} {κ:Store}:SubN ((κ++[t])++[a,b,c]) (t::a::b::c::κ):=by
 have e:(κ++[t])++[a,b,c]=κ++[t,a,b,c]:=by simp
 rw[e]
 exact SubN.perm (perm_append_comm (l₁:=κ) (l₂:=[t,a,b,c]))
theorem SubN.ins2 {t a b c:Nat×AObj} {κ:Store}:SubN (a::b::c::κ) ((κ++[t])++[a,b,c]):=by
 have e:(κ++[t])++[a,b,c]=κ++[t,a,b,c]:=by simp
 rw[e]
 exact SubN.trans (SubN.tail (SubN.refl _) t) (SubN.perm (perm_append_comm (l₁:=[t,a,b,c]) (l₂:=κ)))
section
variable (G:Glob)
theorem d244 (E j:Nat) (x:U) (Z:j<x.kids.length) (hl:x.kids.length<1000000):
  jA G (.func (.func 244) #[] #[.pointer (some ⟨E,0,none⟩)]) (λy=>{y with kids:=delAt y.kids j}) [(E,.cells 3 [.int .i64 j])] x:=by
 intro b v κ X I
 refine⟨_,_,_,rfl,?_⟩
 have M:=f202 G _ v κ X j (by rw[length_map];exact Z) (by rw[length_map];exact hl)
 have hv:=X
 obtain⟨T,cap,rfl,_⟩:=hv
 have Y:¬b=E:=by simp[Store.keys]at I;exact I.1.1
 have q2:¬E=b:=λe=>Y e.symm
 have hw:IntKind.i64.wrap ((j:Int)+1)=((j+1:Nat):Int):=by rw[aA (by omega) (by omega)];omega
 rw[length_map]at M
 have N:(x.kids.map U.cs).take j++(x.kids.map U.cs).drop (j+1)=(delAt x.kids j).map U.cs:=by unfold delAt;rw[map_append,map_take,map_drop]
 rw[N]at M
 show ag G Tryz.prog 244 [.sc (.pointer (some ⟨b,0,none⟩)),.sc (.pointer (some ⟨E,0,none⟩))] _ _
 simp only[U.csv]
 refine ag.w c244 ?_
 unfold s244 r244
 (repeat' (first|simp only[EVz,seval,↓reduceIte,EV6,EV7,Y,q2,hw]|(with_reducible first|refine ae ?_ ?_|refine af ?_)|(refine aT κ [(b,_),(E,_)] M.v (ax.rfl' _) (SubN.perm (perm_append_comm (l₁:=κ) (l₂:=[_,_]))) (λr1 J hr V=>?_))|(refine⟨_,SubN.perm (perm_append_comm (l₁:=[_,_]) (l₂:=J)),?_⟩)|(obtain⟨D,F,rfl,O⟩:=hr)))
 all_goals exact RET.mk' (SubN.refl _) ⟨_,J,⟨D,F,by rw[length_map],O⟩,rfl⟩
theorem d158 (D:Nat) (w:List Wd) (x:U):
  jA G (.func (.func 158) #[] #[.pointer (some ⟨D,0,none⟩)]) (λy=>{y with words:=w}) [(D,.cells 24 [.lst 4 (w.map Wd.cs)])] x:=by
 intro b v κ I E
 have F:¬b=D:=by simp[Store.keys]at E;exact E.1.1
 have J:¬D=b:=λe=>F e.symm
 refine⟨_,_,_,rfl,?_⟩
 show ag G Tryz.prog 158 [.sc (.pointer (some ⟨b,0,none⟩)),.sc (.pointer (some ⟨D,0,none⟩))] _ _
 simp only[U.csv]
 refine ag.w c158 ?_
 unfold s158 r158
 (repeat' (simp only[EVz,seval,↓reduceIte,EV6,EV7,F,J]))
 all_goals exact RET.mk' (SubN.refl _) ⟨_,κ,I,rfl⟩
theorem d160 (D:Nat) (w:List Wd) (x:U):
  jA G (.func (.func 160) #[] #[.pointer (some ⟨D,0,none⟩)]) (λy=>{y with words:=w}) [(D,.cells 24 [.lst 4 (w.map Wd.cs)])] x:=by
 intro b v κ I E
 have F:¬b=D:=by simp[Store.keys]at E;exact E.1.1
 have J:¬D=b:=λe=>F e.symm
 refine⟨_,_,_,rfl,?_⟩
 show ag G Tryz.prog 160 [.sc (.pointer (some ⟨b,0,none⟩)),.sc (.pointer (some ⟨D,0,none⟩))] _ _
 simp only[U.csv]
 refine ag.w c160 ?_
 unfold s160 r160
 (repeat' (simp only[EVz,seval,↓reduceIte,EV6,EV7,F,J]))
 all_goals exact RET.mk' (SubN.refl _) ⟨_,κ,I,rfl⟩
theorem d162 (D:Nat) (w:List Wd) (x:U):
  jA G (.func (.func 162) #[] #[.pointer (some ⟨D,0,none⟩)]) (λy=>{y with head:=w}) [(D,.cells 24 [.lst 4 (w.map Wd.cs)])] x:=by
 intro b v κ I E
 have F:¬b=D:=by simp[Store.keys]at E;exact E.1.1
 have J:¬D=b:=λe=>F e.symm
 refine⟨_,_,_,rfl,?_⟩
 show ag G Tryz.prog 162 [.sc (.pointer (some ⟨b,0,none⟩)),.sc (.pointer (some ⟨D,0,none⟩))] _ _
 simp only[U.csv]
 refine ag.w c162 ?_
 unfold s162 r162
 (repeat' (simp only[EVz,seval,↓reduceIte,EV6,EV7,F,J]))
 all_goals exact RET.mk' (SubN.refl _) ⟨_,κ,I,rfl⟩
theorem d163 (D:Nat) (d:Dd) (x:U):
  jA G (.func (.func 163) #[] #[.pointer (some ⟨D,0,none⟩)]) (λy=>{y with label:=d.it.label}) [(D,.cells 54 d.cs)] x:=by
 intro b v κ I E
 have F:¬b=D:=by simp[Store.keys]at E;exact E.1.1
 have J:¬D=b:=λe=>F e.symm
 refine⟨_,_,_,rfl,?_⟩
 show ag G Tryz.prog 163 [.sc (.pointer (some ⟨b,0,none⟩)),.sc (.pointer (some ⟨D,0,none⟩))] _ _
 simp only[U.csv]
 unfold Dd.cs
 rw[Itm.cs_eq]
 refine ag.w c163 ?_
 unfold s163 r163
 (repeat' (simp only[EVz,seval,↓reduceIte,EV6,EV7,F,J]))
 all_goals exact RET.mk' (SubN.refl _) ⟨_,κ,I,rfl⟩
theorem d154 (E F j:Nat) (y x:U) (hj:j<=x.kids.length) (hl:x.kids.length<1000000):
  jA G (.func (.func 154) #[] #[.pointer (some ⟨E,0,none⟩),.pointer (some ⟨F,0,none⟩)]) (λz=>{z with kids:=insAt z.kids j y}) [(E,.cells 3 [.int .i64 j]),(F,.cells 27 y.cs)] x:=by
 intro b v κ ho D
 have hv:=ho
 obtain⟨al,cap,rfl,_⟩:=hv
 rw[length_map]at ho
 have q:¬b=E/\¬b=F/\¬E=F:=by simp[Store.keys]at D;exact⟨D.1.1,D.1.2.1,D.2.1.1⟩
 obtain⟨q1,q2,q3⟩:=q
 have T:¬E=b:=λe=>q1 e.symm
 have V:¬F=b:=λe=>q2 e.symm
 have X:¬F=E:=λe=>q3 e.symm
 have hC:=λbo=>f155 G _ _ κ ho j (by rw[length_map];exact hj) (by rw[length_map];exact hl) bo y.cs (U.cs_len y)
 have Y:dL (x.kids.map U.cs) j y.cs=(insAt x.kids j y).map U.cs:=by unfold dL insAt;rw[map_append,map_cons,map_take,map_drop]
 rw[Y]at hC
 refine⟨_,_,_,rfl,?_⟩
 show ag G Tryz.prog 154 [.sc (.pointer (some ⟨b,0,none⟩)),.sc (.pointer (some ⟨E,0,none⟩)),.sc (.pointer (some ⟨F,0,none⟩))] _ _
 simp only[U.csv,length_map]
 refine ag.w c154 ?_
 unfold s154 r154
 (repeat' (first|simp only[EVz,seval,↓reduceIte,EV6,EV7,q1,q2,q3,T,V,X,Z]|simp only[EVz,seval,↓reduceIte,EV6,EV7,q1,q2,q3,T,V,X]|(with_reducible intro J N;(try(have O:=N;simp only[EVK]at O;(have Z:=O))))|(with_reducible first|refine ae ?_ ?_|refine af ?_)|(refine⟨[y.cs],rfl,(by simp[U.cs_len]),(by simp),?_⟩)|(refine aT (κ++[(J,_)]) [(b,_),(E,_),(F,_)] (hC J).v (ax.rfl' _) SubN.ins1 (λr1 aw hr an=>?_))|(obtain⟨ah,⟨I,M,rfl,ac⟩,rfl⟩:=hr)|(refine⟨_,SubN.ins2,?_⟩)))
 all_goals exact RET.mk' (SubN.refl _) ⟨_,ah,⟨I,M,by rw[length_map],ac⟩,rfl⟩
theorem d164 (E F j:Nat) (y x:U) (hj:j<=x.kids.length) (hl:x.kids.length<1000000):
  jA G (.func (.func 164) #[] #[.pointer (some ⟨E,0,none⟩),.pointer (some ⟨F,0,none⟩)]) (λz=>{z with kids:=insAt z.kids j y}) [(E,.cells 3 [.int .i64 j]),(F,.cells 27 y.cs)] x:=by
 intro b v κ ho D
 have hv:=ho
 obtain⟨al,cap,rfl,_⟩:=hv
 rw[length_map]at ho
 have q:¬b=E/\¬b=F/\¬E=F:=by simp[Store.keys]at D;exact⟨D.1.1,D.1.2.1,D.2.1.1⟩
 obtain⟨q1,q2,q3⟩:=q
 have T:¬E=b:=λe=>q1 e.symm
 have V:¬F=b:=λe=>q2 e.symm
 have X:¬F=E:=λe=>q3 e.symm
 have hC:=λbo=>f155 G _ _ κ ho j (by rw[length_map];exact hj) (by rw[length_map];exact hl) bo y.cs (U.cs_len y)
 have Y:dL (x.kids.map U.cs) j y.cs=(insAt x.kids j y).map U.cs:=by unfold dL insAt;rw[map_append,map_cons,map_take,map_drop]
 rw[Y]at hC
 refine⟨_,_,_,rfl,?_⟩
 show ag G Tryz.prog 164 [.sc (.pointer (some ⟨b,0,none⟩)),.sc (.pointer (some ⟨E,0,none⟩)),.sc (.pointer (some ⟨F,0,none⟩))] _ _
 simp only[U.csv,length_map]
 refine ag.w c164 ?_
 unfold s164 r164
 (repeat' (first|simp only[EVz,seval,↓reduceIte,EV6,EV7,q1,q2,q3,T,V,X,Z]|simp only[EVz,seval,↓reduceIte,EV6,EV7,q1,q2,q3,T,V,X]|(with_reducible intro J N;(try(have O:=N;simp only[EVK]at O;(have Z:=O))))|(with_reducible first|refine ae ?_ ?_|refine af ?_)|(refine⟨[y.cs],rfl,(by simp[U.cs_len]),(by simp),?_⟩)|(refine aT (κ++[(J,_)]) [(b,_),(E,_),(F,_)] (hC J).v (ax.rfl' _) SubN.ins1 (λr1 aw hr an=>?_))|(obtain⟨ah,⟨I,M,rfl,ac⟩,rfl⟩:=hr)|(refine⟨_,SubN.ins2,?_⟩)))
 all_goals exact RET.mk' (SubN.refl _) ⟨_,ah,⟨I,M,by rw[length_map],ac⟩,rfl⟩
end
end Go.Av
