/-
  UNDO, walks 5: numerals and the texts of patches, by the program and by the reference.
-/
import Derived.Test.YtnoakpkjccigoaaGreatDoorVXM14toXV1
import Derived.Test.YtnoakpkjccigoaaGreatDoorVXL14toXFrU
import Derived.Test.YtnoakpkjccigoaaGreatDoorVXAv16toXAv23
namespace Go.Av
open Go Go.RowKit Go.Proofs List
set_option linter.unusedSimpArgs false
set_option linter.unusedVariables false
def inI (n:Int):Prop:=-9223372036854775808<=n/\n<=9223372036854775807
theorem gD {n:Int} (h:inI n):(Lib.itoa n).length<=21:=Lib.itoa_length_le _ h.1 h.2
theorem u8dig {d:Nat} (h:d<10):IntKind.u8.wrap ((48+d:Nat):Int)=((UInt8.ofNat (48+d)).toNat:Int):=by
 have:d=0\/d=1\/d=2\/d=3\/d=4\/d=5\/d=6\/d=7\/d=8\/d=9:=by omega
 rcases this with rfl|rfl|rfl|rfl|rfl|rfl|rfl|rfl|rfl|rfl<;>rfl
theorem qV {i:Idd} (h:inI i.act/\inI i.item/\inI i.n):(idTx i).length<=100:=by
 have D:=gD h.1
 have E:=gD h.2.1
 have F:=gD h.2.2
 unfold idTx
 simp
 omega
section
variable (G:Glob)
set_option maxHeartbeats 2000000 in
theorem f31:∀(k:Nat) (n:Int),n.natAbs=k->inI n->Pure G Tryz.prog 31 [.int .i64 n] (.str (Lib.itoa n)):=by
 intro k
 induction k using Nat.strongRecOn with
 |ind k ih=>
 intro n hk hn
 obtain⟨h0,h1⟩:=hn
 have hd:n.tdiv 10*10+n.tmod 10=n:=by have:=Int.mul_tdiv_add_tmod n 10;omega
 have Z:0<=n->0<=n.tmod 10:=λh=>Int.tmod_nonneg _ h
 have ac:n.tmod 10<10:=Int.tmod_lt_of_pos _ (by omega)
 have ah:n<=0->n.tmod 10<=0:=λh=>by
  have X:=Int.tmod_nonneg (a:=-n) 10 (by omega)
  rw[Int.neg_tmod]at X;omega
 have al: -10<n.tmod 10:=by
  have X:=Int.tmod_lt_of_pos (-n) (b:=10) (by omega)
  rw[Int.neg_tmod]at X;omega
 have T:inI (n.tdiv 10):=by unfold inI;omega
 have hl:=gD T
 have Y:IntKind.i64.wrap (n.tdiv 10)=n.tdiv 10:=aA (by omega) (by omega)
 by_cases c:n<0
 ·by_cases c2: -10<n
  ·have I:IntKind.i64.wrap (48-n)=((48+(-n).toNat:Nat):Int):=by rw[aA (by omega) (by omega)];omega
   have J:=u8dig (d:=(-n).toNat) (by omega)
   have M:=rZ c c2
   refine Pure.w c31 λR N=>?_
   unfold s31 r31
   (repeat' (first|(with_reducible (refine ab (λh=>?_) (λh=>?_))<;>(try simp only[DZ]at h))|simp only[EVz,seval,↓reduceIte,EV6,EV7,I,J,length_cons,length_nil]|(with_reducible intro F D;(try(have E:=D;simp only[EVK]at E;(have V:=E))))|(with_reducible refine ae ?_ ?_)|(refine⟨[[AV.int .u8 (UInt8.ofNat (48+(-n).toNat)).toNat]],rfl,(by simp),rfl,?_⟩)|(refine q9 (l:=[UInt8.ofNat (48+(-n).toNat)]) (.inl (.inr ⟨rfl,rfl⟩)) Tryz.underlying107 Tryz.underlying5 Tryz.underlying9 ?_)|(exfalso;omega)|fail))
   all_goals exact RET.eq N (congrArg AV.str (by rw[M]<;>rfl))
  ·have I:IntKind.i64.wrap (48-n.tmod 10)=((48+(-(n.tmod 10)).toNat:Nat):Int):=by rw[aA (by omega) (by omega)];omega
   have J:=u8dig (d:=(-(n.tmod 10)).toNat) (by omega)
   have M:=itoa_nbig (n:=n) (by omega)
   have O:=ih (n.tdiv 10).natAbs (by omega) (n.tdiv 10) rfl T
   refine Pure.w c31 λR N=>?_
   unfold s31 r31
   (repeat' (first|(with_reducible (refine ab (λh=>?_) (λh=>?_))<;>(try simp only[DZ]at h))|(with_reducible first|refine AI (by omega) ?_|refine aa O ?_)|simp only[EVz,seval,↓reduceIte,EV6,EV7,Y,I,J,length_cons,length_nil]|(with_reducible intro F D;(try(have E:=D;simp only[EVK]at E;(have V:=E))))|(with_reducible first|refine ae ?_ ?_|refine af ?_)|(refine⟨[[AV.int .u8 (UInt8.ofNat (48+(-(n.tmod 10)).toNat)).toNat]],rfl,(by simp),rfl,?_⟩)|(refine q9 (l:=[UInt8.ofNat (48+(-(n.tmod 10)).toNat)]) (.inl (.inr ⟨rfl,rfl⟩)) Tryz.underlying107 Tryz.underlying5 Tryz.underlying9 ?_)|(exfalso;omega)|fail))
   all_goals exact RET.eq N (congrArg AV.str (by rw[M]<;>rfl))
 ·by_cases c2:n<10
  ·have I:IntKind.i64.wrap (48+n)=((48+n.toNat:Nat):Int):=by rw[aA (by omega) (by omega)];omega
   have J:=u8dig (d:=n.toNat) (by omega)
   have M:=fA (n:=n) (by omega) c2
   refine Pure.w c31 λR N=>?_
   unfold s31 r31
   (repeat' (first|(with_reducible (refine ab (λh=>?_) (λh=>?_))<;>(try simp only[DZ]at h))|simp only[EVz,seval,↓reduceIte,EV6,EV7,I,J,length_cons,length_nil]|(with_reducible intro F D;(try(have E:=D;simp only[EVK]at E;(have V:=E))))|(with_reducible refine ae ?_ ?_)|(refine⟨[[AV.int .u8 (UInt8.ofNat (48+n.toNat)).toNat]],rfl,(by simp),rfl,?_⟩)|(refine q9 (l:=[UInt8.ofNat (48+n.toNat)]) (.inl (.inr ⟨rfl,rfl⟩)) Tryz.underlying107 Tryz.underlying5 Tryz.underlying9 ?_)|(exfalso;omega)|fail))
   all_goals exact RET.eq N (congrArg AV.str (by rw[M]))
  ·have I:IntKind.i64.wrap (48+n.tmod 10)=((48+(n.tmod 10).toNat:Nat):Int):=by rw[aA (by omega) (by omega)];omega
   have J:=u8dig (d:=(n.tmod 10).toNat) (by omega)
   have M:=rY (n:=n) (by omega)
   have O:=ih (n.tdiv 10).natAbs (by omega) (n.tdiv 10) rfl T
   refine Pure.w c31 λR N=>?_
   unfold s31 r31
   (repeat' (first|(with_reducible (refine ab (λh=>?_) (λh=>?_))<;>(try simp only[DZ]at h))|(with_reducible first|refine AI (by omega) ?_|refine aa O ?_)|simp only[EVz,seval,↓reduceIte,EV6,EV7,Y,I,J,length_cons,length_nil]|(with_reducible intro F D;(try(have E:=D;simp only[EVK]at E;(have V:=E))))|(with_reducible first|refine ae ?_ ?_|refine af ?_)|(refine⟨[[AV.int .u8 (UInt8.ofNat (48+(n.tmod 10).toNat)).toNat]],rfl,(by simp),rfl,?_⟩)|(refine q9 (l:=[UInt8.ofNat (48+(n.tmod 10).toNat)]) (.inl (.inr ⟨rfl,rfl⟩)) Tryz.underlying107 Tryz.underlying5 Tryz.underlying9 ?_)|(exfalso;omega)|fail))
   all_goals exact RET.eq N (congrArg AV.str (by rw[M]))
theorem f30 (i:Idd) (h:inI i.act/\inI i.item/\inI i.n):Pure G Tryz.prog 30 [.agg i.cs] (.str (idTx i)):=by
 have J:=gD h.1
 have M:=gD h.2.1
 have N:=gD h.2.2
 have D:=f31 G _ i.act rfl h.1
 have E:=f31 G _ i.item rfl h.2.1
 have F:=f31 G _ i.n rfl h.2.2
 refine Pure.w c30 λR I=>?_
 unfold s30 r30
 unfold Idd.cs
 (repeat' (first|(with_reducible first|refine AI (by omega) ?_|refine aa D ?_|refine aa E ?_|refine aa F ?_)|simp only[EVz,seval,↓reduceIte,EV6,EV7,length_append,length_cons,length_nil]|fail))
 all_goals exact RET.eq I (congrArg AV.str (by simp[idTx]))
theorem f27 (D:GOk2 G) (i:Idd) (h:inI i.act/\inI i.item/\inI i.n):Pure G Tryz.prog 27 [.agg i.cs] (.str (idTx i)):=by
 have M:=gD h.1
 have N:=gD h.2.1
 have O:=gD h.2.2
 have E:=f51 G D i.act h.1.1 h.1.2
 have F:=f51 G D i.item h.2.1.1 h.2.1.2
 have I:=f51 G D i.n h.2.2.1 h.2.2.2
 refine Pure.w c27 λR J=>?_
 unfold s27 r27
 unfold Idd.cs
 (repeat' (first|(with_reducible first|refine AI (by omega) ?_|refine aa E ?_|refine aa F ?_|refine aa I ?_)|simp only[EVz,seval,↓reduceIte,EV6,EV7,length_append,length_cons,length_nil]|fail))
 all_goals exact RET.eq J (congrArg AV.str (by simp[idTx]))
structure Pt.Small (p:Pt):Prop where
 at_:inI p.at_
 id:inI p.id.act/\inI p.id.item/\inI p.id.n
 par:inI p.parent.act/\inI p.parent.item/\inI p.parent.n
theorem from_len {p:Pt} (h:p.Small):(rD p).length<=300:=by
 have D:=qV h.id
 have E:=qV h.par
 have F:=gD h.at_
 unfold rD
 simp
 omega
theorem f28 (D:GOk2 G) (p:Pt) (h:p.Small):Pure G Tryz.prog 28 [.agg p.cs] (.str (rD p)):=by
 have M:=qV h.id
 have N:=qV h.par
 have O:=gD h.at_
 have E:=f27 G D p.id h.id
 have F:=f27 G D p.parent h.par
 have I:=f51 G D p.at_ h.at_.1 h.at_.2
 simp only[Idd.cs]at E F
 refine Pure.w c28 λR J=>?_
 unfold s28 r28
 unfold Pt.cs
 (repeat' (first|(with_reducible first|refine AI (by omega) ?_|refine aa E ?_|refine aa F ?_|refine aa I ?_)|simp only[EVz,seval,↓reduceIte,EV6,EV7,length_append,length_cons,length_nil]|fail))
 all_goals exact RET.eq J (congrArg AV.str (by simp[rD]))
end
end Go.Av
