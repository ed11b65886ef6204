/-
  UNDO, walks 12: a patch of any kind taken back; the patch of an item.
-/
import Derived.Test.YtnoakpkjccigoaaGreatDoorRXM30toXM32
import Derived.Test.YtnoakpkjccigoaaGreatDoorRXL52toXE16
import Derived.Test.YtnoakpkjccigoaaGreatDoorRXM16toXV1
import Derived.Test.YtnoakpkjccigoaaGreatDoorRXL13toXL45
import Derived.Test.YtnoakpkjccigoaaGreatDoorRXAv21toXAv25
import Derived.Test.YtnoakpkjccigoaaGreatDoorRXE7toXP1
import Derived.Test.YtnoakpkjccigoaaGreatDoorRXL18toXL21
import Derived.Test.YtnoakpkjccigoaaGreatDoorRXM18toXM14
import Derived.Test.YtnoakpkjccigoaaGreatDoorRXP8toXU7
import Derived.Test.YtnoakpkjccigoaaGreatDoorRXC4
import Derived.Test.YtnoakpkjccigoaaGreatDoorRXC5
import Derived.Test.YtnoakpkjccigoaaGreatDoorRXC6
import Derived.Test.YtnoakpkjccigoaaGreatDoorRXL23toXL37
import Derived.Test.YtnoakpkjccigoaaGreatDoorRXN0toXM25
namespace Go.Av
open Go Go.RowKit Go.Proofs List
set_option linter.unusedSimpArgs false
set_option linter.unusedVariables false
section
variable (G:Glob)
theorem iZ (u:U) (p:Pt) (fn:Nat) (N:aS p.kind g9=some (fnv fn)) (q:U×Int) (hq:Pure G Tryz.prog fn [.agg u.cs,.agg p.cs] (aO q)):Pure G Tryz.prog 14 [.agg u.cs,.agg p.cs] (aO q):=by
 have Y:=f36 G
 obtain⟨f,F⟩:∃f,fnv fn= .sc f:=⟨_,rfl⟩
 have M:f= .func (.func fn) #[] #[]:=by unfold fnv at F;injection F with F;exact F.symm
 rw[F]at N
 have J:=hq.v
 subst M
 unfold aO at J ⊢
 have T:=U.cs_len q.1
 generalize q.1.cs=xs at*
 generalize q.2=e at*
 have V:xs.take 8=xs:=take_of_length_le (by omega)
 unfold Pt.cs at J ⊢
 rw[U.cs_eq u]at J ⊢
 refine Pure.w c14 λR Z=>?_
 unfold s14 r14
 (repeat' (first|simp only[EVz,seval,↓reduceIte,EV6,EV7,N,Option.getD_some,Option.isSome_some,T,V,D]|simp only[EVz,seval,↓reduceIte,EV6,EV7,N,Option.getD_some,Option.isSome_some,T,V]|(with_reducible intro X E;(try(have I:=E;simp only[EVK]at I;(have D:=I))))|(refine av [] _ Y.v (ax.rfl' _) (SubN.refl _) (λr σ' hh O=>?_);obtain⟨bm,rfl,rfl⟩:=hh;(have D:=O);(try simp[Store.keys]at D))|(refine aG bg (l:=g9) (k:=p.kind) (z:=.nilFunc) (zv:=.sc .nilFunc) (eT:=41) rfl (bK _) (by kernel_rfl) (by exact aQ) (by kernel_rfl) cE ?_)|(refine aI J ?_)|fail))
 all_goals exact Z _ _ (.inl (.inl (by rfl)))
theorem rev_none (u:U) (p:Pt) (J:aS p.kind g9=none):Pure G Tryz.prog 14 [.agg u.cs,.agg p.cs] (aO (noU,1)):=by
 have N:=f36 G
 unfold Pt.cs
 rw[U.cs_eq u]
 refine Pure.wL c14 λR O=>?_
 unfold s14 r14
 (repeat' (first|simp only[EVz,seval,↓reduceIte,EV6,EV7,J,Option.getD_none,Option.isSome_none,D]|simp only[EVz,seval,↓reduceIte,EV6,EV7,J,Option.getD_none,Option.isSome_none]|(with_reducible intro M E;(try(have F:=E;simp only[EVK]at F;(have D:=F))))|(refine av [] _ N.v (ax.rfl' _) (SubN.refl _) (λr σ' T I=>?_);obtain⟨V,rfl,rfl⟩:=T;(have D:=I);(try simp[Store.keys]at D))|(refine aG bg (l:=g9) (k:=p.kind) (z:=.nilFunc) (zv:=.sc .nilFunc) (eT:=41) rfl (bK _) (by kernel_rfl) (by exact aQ) (by kernel_rfl) cE ?_)|fail))
 all_goals exact O _ _ (dG 1)
variable (hG:GOk G)
include hG
theorem f14 (u:U) (D:Good u) (E:u.kind=0) (p:Pt) (T:p.unit.Short) (F:p.unit.flat.length<=1000000) (O:p.words.length<1000000):Pure G Tryz.prog 14 [.agg u.cs,.agg p.cs] (aO (revP u p)):=by
 unfold revP
 by_cases I:p.kind=0
 ·rw[if_pos I]
  exact iZ G u p 57 (by rw[I];rfl) _ (f57 G hG u D p)
 rw[if_neg I]
 by_cases k1:p.kind=1
 ·rw[if_pos k1]
  exact iZ G u p 59 (by rw[k1];rfl) _ (f59 G hG u D E p T F)
 rw[if_neg k1]
 by_cases J:p.kind=2
 ·rw[if_pos J]
  exact iZ G u p 61 (by rw[J];rfl) _ (f61 G hG u D E p)
 rw[if_neg J]
 by_cases M:p.kind=3
 ·rw[if_pos M]
  exact iZ G u p 63 (by rw[M];rfl) _ (f63 G hG u D E p)
 rw[if_neg M]
 by_cases N:p.kind=4
 ·rw[if_pos N]
  exact iZ G u p 65 (by rw[N];rfl) _ (f65 G hG u D p O)
 rw[if_neg N]
 by_cases k5:p.kind=5
 ·rw[if_pos k5]
  exact iZ G u p 67 (by rw[k5];rfl) _ (f67 G hG u D p O)
 rw[if_neg k5]
 exact rev_none G u p (tak_none (by omega))
end
/-! ### the patch of an item -/
def makTab:List (Int×AV):=[(1,fnv 87),(6,fnv 89),(2,fnv 85),(3,fnv 85),(4,fnv 90),(5,fnv 91)]
section
variable (G:Glob)
theorem f88 (u:U) (M:Good u) (i:Idd) (hi:i∈u.ids) (J:u.id≠i):Pure G Tryz.prog 88 [.agg u.cs,.agg i.cs] (.agg (Pt.cs ⟨0,(parR i u).2.2,i,(parR i u).1.id,noU,[],[]⟩)):=by
 obtain⟨own,d,j,O,T,X⟩:=bt M.nd hi J
 have F:=f131 G i u M.short M.nd
 unfold gW at F
 rw[O]at F
 rw[T]
 simp only[Idd.cs]at F
 rw[U.cs_eq u]at F ⊢
 refine Pure.w c88 λR V=>?_
 unfold s88 r88
 (repeat' (first|(with_reducible refine aa F ?_)|simp only[EVz,seval,↓reduceIte,EV6,EV7,D]|simp only[EVz,seval,↓reduceIte,EV6,EV7]|(with_reducible intro N I;(try(have E:=I;simp only[EVK]at E;first|(have D:=AI E D)|(have D:=E))))|fail))
 all_goals exact V _ _ (.inr (by simp[Pt.cs,noU,zId,bc,aR]))
theorem f85 (u x:U) (N:x.words.length<1000000):Pure G Tryz.prog 85 [.agg u.cs,.agg x.cs] (.agg (Pt.cs ⟨4,0,x.id,zId,noU,[],x.words⟩)):=by
 have J:=f86p G x.words N
 rw[U.cs_eq u,U.cs_eq x]
 refine Pure.w c85 λR M=>?_
 unfold s85 r85
 (repeat' (first|(with_reducible refine aa J ?_)|simp only[EVz,seval,↓reduceIte,EV6,EV7,F]|simp only[EVz,seval,↓reduceIte,EV6,EV7]|(with_reducible intro I D;(try(have E:=D;simp only[EVK]at E;(have F:=E))))|fail))
 all_goals exact M _ _ (.inr (by simp[Pt.cs,noU,zId,bc,aR]))
theorem f87 (u x:U) (O:Good u) (hi:x.id∈u.ids) (I:u.id≠x.id):Pure G Tryz.prog 87 [.agg u.cs,.agg x.cs] (.agg (Pt.cs ⟨1,(parR x.id u).2.2,x.id,(parR x.id u).1.id,x,[],[]⟩)):=by
 have J:=f88 G u O x.id hi I
 simp only[Idd.cs]at J
 unfold Pt.cs noU at J
 rw[U.cs_eq u]at J ⊢
 rw[U.cs_eq x]
 refine Pure.w c87 λR N=>?_
 unfold s87 r87
 (repeat' (first|(with_reducible refine aa J ?_)|simp only[EVz,seval,↓reduceIte,EV6,EV7,D]|simp only[EVz,seval,↓reduceIte,EV6,EV7]|(with_reducible intro M F;(try(have E:=F;simp only[EVK]at E;first|(have D:=AI E D)|(have D:=E))))|fail))
 all_goals exact N _ _ (.inr (by simp[Pt.cs,noU,zId,bc,aR]))
theorem f89 (u x:U) (O:Good u) (hi:x.id∈u.ids) (I:u.id≠x.id):Pure G Tryz.prog 89 [.agg u.cs,.agg x.cs] (.agg (Pt.cs ⟨2,(parR x.id u).2.2,x.id,(parR x.id u).1.id,noU,[],[]⟩)):=by
 have J:=f88 G u O x.id hi I
 simp only[Idd.cs]at J
 unfold Pt.cs noU at J
 rw[U.cs_eq u]at J ⊢
 rw[U.cs_eq x]
 refine Pure.w c89 λR N=>?_
 unfold s89 r89
 (repeat' (first|(with_reducible refine aa J ?_)|simp only[EVz,seval,↓reduceIte,EV6,EV7,D]|simp only[EVz,seval,↓reduceIte,EV6,EV7]|(with_reducible intro M F;(try(have E:=F;simp only[EVK]at E;first|(have D:=AI E D)|(have D:=E))))|fail))
 all_goals exact N _ _ (.inr (by simp[Pt.cs,noU,zId,bc,aR]))
theorem f90 (u x:U) (N:x.head.length<1000000):Pure G Tryz.prog 90 [.agg u.cs,.agg x.cs] (.agg (Pt.cs ⟨5,0,x.id,zId,noU,[],x.head⟩)):=by
 have J:=f86p G x.head N
 rw[U.cs_eq u,U.cs_eq x]
 refine Pure.w c90 λR M=>?_
 unfold s90 r90
 (repeat' (first|(with_reducible refine aa J ?_)|simp only[EVz,seval,↓reduceIte,EV6,EV7,F]|simp only[EVz,seval,↓reduceIte,EV6,EV7]|(with_reducible intro I D;(try(have E:=D;simp only[EVK]at E;(have F:=E))))|fail))
 all_goals exact M _ _ (.inr (by simp[Pt.cs,noU,zId,bc,aR]))
theorem f91 (u x:U):Pure G Tryz.prog 91 [.agg u.cs,.agg x.cs] (.agg (Pt.cs ⟨3,0,x.id,zId,noU,x.label,[]⟩)):=by
 rw[U.cs_eq u,U.cs_eq x]
 refine Pure.w c91 λR I=>?_
 unfold s91 r91
 (repeat' (first|simp only[EVz,seval,↓reduceIte,EV6,EV7]|(with_reducible intro F D;(try(have E:=D;simp only[EVK]at E;(have J:=E))))|fail))
 all_goals exact I _ _ (.inr (by simp[Pt.cs,noU,zId,bc,aR]))
theorem f45:ag G Tryz.prog 45 [] [] (λr σ=>∃b,r= .sc (.map (some b))/\σ=[(b,.map (cl intK makTab))]):=by
 refine ag.w c45 ?_
 unfold s45 r45
 (try simp only[EVz,seval,↓reduceIte,EV6,EV7])
 refine cV ?_
 intro b D
 (try simp only[EVz,seval,↓reduceIte,EV6,EV7])
 refine cA bg (l:=[]) (k:=1) (eT:=91) rfl (fT 1) rfl (by kernel_rfl) aQ ?_
 (repeat' (first|simp only[EVz,seval,↓reduceIte,EV6,EV7]|(refine cA bg (eT:=91) rfl (fT _) rfl (by kernel_rfl) aQ ?_)|fail))
 all_goals exact RET.mk (SubN.refl _) ⟨b,rfl,rfl⟩
end
def invAV (q:Pt×Int):AV:=.tup [.agg q.1.cs,.int .i64 q.2]
theorem le_zPt:LeRep (.agg [.int .i64 0,.int .i64 0,.int .i64 0,.int .i64 0,.int .i64 0,.int .i64 0,.int .i64 0,.int .i64 0,.int .i64 0,.int .i64 0,.int .i64 0,.int .i64 0,.str [],.nil,.nil,.nil,.str [],.nil]) (.agg zPt.cs):=by
 refine LeRep.agg ?_
 unfold Pt.cs zPt zId noU
 repeat' first
  |exact LeReps.nil
  |refine LeReps.cons ?_ ?_
 all_goals first|exact LeRep.refl _|exact LeRep.nil
theorem le_iPt (a b c:Int):LeRep (.agg [.int .i64 0,.int .i64 0,.int .i64 a,.int .i64 b,.int .i64 c,.int .i64 0,.int .i64 0,.int .i64 0,.int .i64 0,.int .i64 0,.int .i64 0,.int .i64 0,.str [],.nil,.nil,.nil,.str [],.nil]) (.agg (Pt.cs ⟨0,0,⟨a,b,c⟩,zId,noU,[],[]⟩)):=by
 refine LeRep.agg ?_
 unfold Pt.cs zId noU
 repeat' first
  |exact LeReps.nil
  |refine LeReps.cons ?_ ?_
 all_goals first|exact LeRep.refl _|exact LeRep.nil
theorem do_ok {u:U} {d:Dd} (h:(doP u d).2=0):chg d.it.kind=true/\d.it.may=true/\(one u d.it.at_).2=0/\(d.it.kind=0\/(one u d.it.at_).1≠u.id):=by
 unfold doP at h
 split at h
 ·cases h
 rename_i c1
 rw[not_or]at c1
 split at h
 ·rename_i c2;exact absurd h c2
 rename_i c2
 refine⟨by simpa using c1.1,by simpa using c1.2,by simpa using c2,?_⟩
 by_cases D:d.it.kind=0
 ·exact .inl D
 rw[if_neg D]at h
 right
 intro c3
 rw[if_pos c3]at h
 split at h
 ·rename_i c;exact absurd h c.2
 ·cases h
section
variable (G:Glob) (hG:GOk G)
include hG
set_option maxHeartbeats 4000000 in
theorem kH (u:U) (Z:Good u) (d:Dd) (T:d.it.Shorts) (he:(doP u d).2=0) (k0:d.it.kind≠0) (fn:Nat) (hm:aS d.it.kind makTab=some (fnv fn)) (p:Pt)
  (hq:Pure G Tryz.prog fn [.agg u.cs,.agg (fnd (one u d.it.at_).1 u).cs] (.agg p.cs)):Pure G Tryz.prog 17 [.agg u.cs,.agg d.cs] (invAV (p,0)):=by
 have hs:=Z.short
 obtain⟨q1,_⟩:=(Itm.Shorts_eq d.it).1 T
 have I:=f18 G hG u Z d T
 have J:=f43 G u d.it.at_ hs.1 Z.cnt q1.at_
 have hD:=f45 G
 have O:=do_ok he
 have hi:=bZ (u:=u) (p:=d.it.at_) O.2.2.1
 have E:=cj G (one u d.it.at_).1 u hs
 unfold aO at I
 unfold lH at J
 rw[O.2.2.1]at J
 rw[he]at I
 have h1:=U.cs_len (doP u d).1
 generalize (doP u d).1.cs=vs at*
 obtain⟨i,ac⟩:∃i,(one u d.it.at_).1=i:=⟨_,rfl⟩
 rw[ac]at J E hq hi
 rw[show hasP i u=true from decide_eq_true hi]at E
 obtain⟨X,hX⟩:∃X,fnd i u=X:=⟨_,rfl⟩
 rw[hX]at E hq
 obtain⟨f,N⟩:∃f,fnv fn= .sc f:=⟨_,rfl⟩
 have Y:f= .func (.func fn) #[] #[]:=by unfold fnv at N;injection N with N;exact N.symm
 rw[N]at hm
 subst Y
 have V:=hq.v
 have h3:vs.take 8=vs:=take_of_length_le (by omega)
 have h4:=Pt.cs_len p
 unfold invAV
 simp only
 generalize p.cs=ps at*
 have h5:ps.take 18=ps:=take_of_length_le (by omega)
 have e0:decide (d.it.kind=0)=false:=decide_eq_false k0
 unfold Dd.cs at I ⊢
 rw[Itm.cs_eq]at I ⊢
 simp only[Idd.cs]at E
 rw[U.cs_eq X]at E V
 rw[U.cs_eq u]at I J E V ⊢
 refine Pure.w c17 λR hR=>?_
 unfold s17 r17
 (repeat' (first|(with_reducible first|refine aa I ?_|refine aa J ?_|refine aa E ?_)|simp only[EVz,seval,↓reduceIte,EV6,EV7,hm,Option.getD_some,Option.isSome_some,h1,h3,h4,h5,e0,D]|simp only[EVz,seval,↓reduceIte,EV6,EV7,hm,Option.getD_some,Option.isSome_some,h1,h3,h4,h5,e0]|(with_reducible intro ah M;(try(have F:=M;simp only[EVK]at F;first|(have D:=AI F D)|(have D:=F))))|(with_reducible first|refine ae ?_ ?_|refine af ?_)|(refine av [] _ hD.v (ax.rfl' _) (SubN.refl _) (λr σ' hh ad=>?_);obtain⟨bm,rfl,rfl⟩:=hh;(have D:=ad);(try simp[Store.keys]at D))|(refine aG bg (l:=makTab) (k:=d.it.kind) (z:=.nilFunc) (zv:=.sc .nilFunc) (eT:=91) rfl (bK _) (by kernel_rfl) (by exact aQ) (by kernel_rfl) cE ?_)|(refine aI V ?_)|fail))
 all_goals exact hR _ _ (.inl (.inl (by rfl)))
set_option maxHeartbeats 4000000 in
theorem f17 (u:U) (J:Good u) (d:Dd) (F:d.it.Shorts):Pure G Tryz.prog 17 [.agg u.cs,.agg d.cs] (invAV (invP u d)):=by
 have hs:=J.short
 by_cases T:(doP u d).2=0
 ·have N:invP u d=(mkPt u d (one u d.it.at_).1,0):=by unfold invP;rw[if_neg (by simp[T])]
  rw[N]
  obtain⟨o1,o2,o3,o4⟩:=do_ok T
  have hi:=bZ (u:=u) (p:=d.it.at_) o3
  by_cases V:d.it.kind=0
  ·have I:=f18 G hG u J d F
   unfold aO at I
   rw[T]at I
   have Y:=U.cs_len (doP u d).1
   generalize (doP u d).1.cs=vs at*
   have Z:vs.take 8=vs:=take_of_length_le (by omega)
   have e0:decide (d.it.kind=0)=true:=decide_eq_true V
   have ad:mkPt u d (one u d.it.at_).1=⟨0,0,⟨d.act,d.item,1⟩,zId,noU,[],[]⟩:=by unfold mkPt;rw[if_pos V]
   rw[ad]
   unfold Dd.cs at I ⊢
   rw[Itm.cs_eq]at I ⊢
   rw[U.cs_eq u]at I ⊢
   refine Pure.wL c17 λR hR=>?_
   unfold s17 r17
   (repeat' (first|(with_reducible refine aa I ?_)|simp only[EVz,seval,↓reduceIte,EV6,EV7,Y,Z,e0,D]|simp only[EVz,seval,↓reduceIte,EV6,EV7,Y,Z,e0]|(with_reducible intro ac M;(try(have E:=M;simp only[EVK]at E;first|(have D:=AI E D)|(have D:=E))))|fail))
   all_goals exact hR _ _ (LeRep.tup (.cons (le_iPt _ _ _) (.cons (LeRep.refl _) .nil)))
  ·have D:=o4.resolve_left V
   have X:u.id≠(one u d.it.at_).1:=λe=>D e.symm
   have hid:=(cS u J.nd hi).1
   have ah:0<=d.it.kind/\d.it.kind<=6:=by simpa[chg]using o1
   have O:=(hs.node (aP u J.nd hi)).2 _ (U.flat_self _)
   unfold mkPt
   rw[if_neg V]
   by_cases k1:d.it.kind=1
   ·rw[if_pos k1]
    have:=f87 G u (fnd (one u d.it.at_).1 u) J (by rw[hid];exact hi) (by rw[hid];exact X)
    rw[hid]at this
    exact kH G hG u J d F T V 87 (by rw[k1];rfl) _ this
   rw[if_neg k1]
   by_cases k2:d.it.kind=2\/d.it.kind=3
   ·rw[if_pos k2]
    have:=f85 G u (fnd (one u d.it.at_).1 u) O.2.2.1
    rw[hid]at this
    exact kH G hG u J d F T V 85 (by rcases k2 with k|k<;>rw[k]<;>rfl) _ this
   rw[if_neg k2]
   by_cases k4:d.it.kind=4
   ·rw[if_pos k4]
    have:=f90 G u (fnd (one u d.it.at_).1 u) O.2.1
    rw[hid]at this
    exact kH G hG u J d F T V 90 (by rw[k4];rfl) _ this
   rw[if_neg k4]
   by_cases k5:d.it.kind=5
   ·rw[if_pos k5]
    have:=f91 G u (fnd (one u d.it.at_).1 u)
    rw[hid]at this
    exact kH G hG u J d F T V 91 (by rw[k5];rfl) _ this
   rw[if_neg k5]
   have k6:d.it.kind=6:=by omega
   have:=f89 G u (fnd (one u d.it.at_).1 u) J (by rw[hid];exact hi) (by rw[hid];exact X)
   rw[hid]at this
   exact kH G hG u J d F T V 89 (by rw[k6];rfl) _ this
 ·have N:invP u d=(zPt,(doP u d).2):=by unfold invP;rw[if_pos T]
  rw[N]
  have I:=f18 G hG u J d F
  unfold aO at I
  have Y:=U.cs_len (doP u d).1
  generalize (doP u d).1.cs=vs at*
  generalize (doP u d).2=e at*
  have Z:vs.take 8=vs:=take_of_length_le (by omega)
  have e1:decide (e≠0)=true:=decide_eq_true T
  unfold Dd.cs at I ⊢
  rw[Itm.cs_eq]at I ⊢
  rw[U.cs_eq u]at I ⊢
  refine Pure.wL c17 λR hR=>?_
  unfold s17 r17
  (repeat' (first|(with_reducible refine aa I ?_)|simp only[EVz,seval,↓reduceIte,EV6,EV7,Y,Z,e1,D]|simp only[EVz,seval,↓reduceIte,EV6,EV7,Y,Z,e1]|(with_reducible intro ac M;(try(have E:=M;simp only[EVK]at E;first|(have D:=AI E D)|(have D:=E))))|fail))
  all_goals exact hR _ _ (LeRep.tup (.cons le_zPt (.cons (LeRep.refl _) .nil)))
end
theorem app_keptL {e:TypeId} {sz bytes m:Nat} {g:Option Nat} {rows ys:List (List AV)} {K:AV->Store->Prop} (pre κ:Store) (X:∀p∈pre,p.1∉Store.keys (κ++tokS g e m)) (O:∀b,g=some b->b∉κ.keys) (F:m=rows.length*sz) (I:κ.keys.Nodup) (T:(rows.length+ys.length)*bytes<=140737488355328)
  (V:∀E,(∀b,E=some b->b∉κ.keys)->K (.own E e sz (rows++ys)) (κ++tokS E e ((rows++ys).length*sz))):appX e sz bytes (pre++(κ++tokS g e m)) g rows ys K:=by
 subst F
 refine fM κ (λb h=>?_) T ⟨λq M=>?_,λ_=>I⟩ V
 ·have N:=tokF (e:=e) (m:=rows.length*sz) O b h
  have D:b∈Store.keys (κ++tokS g e (rows.length*sz)):=mem_map.2 ⟨_,Store.get_mem N,rfl⟩
  rw[ak]
  ·exact N
  ·intro F
   obtain⟨p,J,rfl⟩:=mem_map.1 F
   exact X p J D
 ·cases g with
  |none=>exact mem_append.2 (.inr (mem_append.2 (.inl M)))
  |some b=>
   refine mem_filter.2 ⟨mem_append.2 (.inr (mem_append.2 (.inl M))),?_⟩
   have:q.1≠b:=λh=>O b rfl (by rw[←h];exact mem_map.2 ⟨q,M,rfl⟩)
   simpa using this
theorem chg_inR (k:Int):inR k 0 6=chg k:=rfl
section
variable (G:Glob) (hG:GOk G)
include hG
end
def mb (q:U×List Pt):AV:=.tup [.agg q.1.cs,.lst 18 (q.2.map Pt.cs)]
section
variable (G:Glob) (hG:GOk G)
include hG
set_option maxHeartbeats 8000000 in
theorem f19 (u:U) (hu:Good u) (l:List Dd) (hl:l.length<1000000) (hs:∀d∈l,d.it.Shorts):Pure G Tryz.prog 19 [.agg u.cs,.lst 28 (l.map Dd.cs)] (mb (allU u l)):=by
 refine Pure.w c19 λR hR=>?_
 unfold s19 r19
 unfold mb at hR
 (repeat' (first|simp only[EVz,seval,↓reduceIte,EV6,EV7]|(with_reducible intro M E;(try(have F:=E;simp only[EVK]at F;first|(have D:=AI F D)|(have D:=F))))|fail))
 rename_i V _ _ _
 generalize bh:M=b4 at*
 have q1:¬b4=V:=by simpa[Store.keys]using E
 have be:¬V=b4:=λe=>q1 e.symm
 refine ay (ι:=U×List Pt×Option Nat) l (λi r c=>Good c.1/\allU u l=((allU c.1 r).1,c.2.1++(allU c.1 r).2)/\c.2.1.length<=i/\(∀d,c.2.2=some d->d∉Store.keys [(b4,AObj.cells 27 zU),(V,.cells 27 zU)])) (λi c=>[(2,.sc (.pointer (some ⟨V,0,none⟩))),(4,.sc (.pointer (some ⟨b4,0,none⟩))),(6,.own c.2.2 29 18 (c.2.1.map Pt.cs)),(11,.lst 28 (l.map Dd.cs)),(12,.int .i64 l.length),(13,.int .i64 i)]) (λi c=>[(b4,.cells 27 zU),(V,.cells 27 c.1.cs)]++tokS c.2.2 29 (c.2.1.length*18)) (u,[],none) ⟨hu,by simp,by simp,by simp⟩ (Weak.of (by simp[eJ,Env.get,AVle,aR]) (SubN.refl _)) (by omega) (λi x r c T I hw=>?_) (λc T hn=>?_)
 ·obtain⟨Z,J,o3,o4⟩:=T
  have N:=f48 G x.it.kind
  rw[chg_inR]at N
  have X:=f17 G hG c.1 Z x (hs x I.mem)
  have hA:=f18 G hG c.1 Z x (hs x I.mem)
  have ba:=(fz Z x).1
  have bi:=I.lt
  rw[ln]at J
  unfold aO at hA
  unfold invAV at X
  have hU:=U.cs_len c.1
  have ad:c.1.cs.take 8=c.1.cs:=take_of_length_le (by omega)
  cases hc:chg x.it.kind with
  |false=>
   rw[hc]at N
   rw[hc,if_pos (.inl rfl)]at J
   (repeat' (first|(with_reducible refine aa N ?_)|simp only[EVz,seval,↓reduceIte,EV6,EV7,I.yes,I.le0,I.lt',I.get,I.row,hw,Dd.cs,Itm.cs_eq,D]|(with_reducible intro M E;(try(have F:=E;simp only[EVK]at F;(have D:=AI F D))))|fail))
   exact ap I c ⟨Z,J,by omega,o4⟩ (Weak.sub (SubN.tail (SubN.refl _) _))
  |true=>
   rw[hc]at N
   rw[hc]at J
   obtain⟨⟨p,e⟩,ah⟩:∃z,invP c.1 x=z:=⟨_,rfl⟩
   rw[ah]at X J
   simp only[Dd.cs,Itm.cs_eq]at hA X
   simp only at J
   have O:=Pt.cs_len p
   have ac:p.cs.take 18=p.cs:=take_of_length_le (by omega)
   rcases Classical.em (e=0)with he|he
   ·subst he
    rw[if_neg (by simp)]at J
    have aw:(doP c.1 x).2=0:=by rw[←inv_err,ah]
    rw[aw]at hA
    have al:=U.cs_len (doP c.1 x).1
    have an:(doP c.1 x).1.cs.take 8=(doP c.1 x).1.cs:=take_of_length_le (by omega)
    (repeat' (first|(with_reducible first|refine aa N ?_|refine aa X ?_|refine aa hA ?_)|simp only[EVz,seval,↓reduceIte,EV6,EV7,I.yes,I.le0,I.lt',I.get,I.row,hw,Dd.cs,Itm.cs_eq,O,ac,al,an,hU,ad,D]|(with_reducible intro M E;(try(have F:=E;simp only[EVK]at F;(have D:=AI F D))))|fail))
    clear hA N X
    rename_i b8 _ _ _ b9 _ _ _
    obtain⟨n1,n2,n3,n4⟩:=D
    have bd:∀d,c.2.2=some d->d∈(tokS c.2.2 29 (c.2.1.length*18)).keys:=by
     intro d Y
     rw[Y]
     simp[tokS,Store.keys]
    refine⟨[p.cs],rfl,by simp[O],by simp,?_⟩
    refine app_keptL (sz:=18) (bytes:=224) (rows:=c.2.1.map Pt.cs) (ys:=[p.cs]) (m:=c.2.1.length*18) [(M,_)] [(b9,_),(b8,_),(b4,_),(V,_)] ?_ ?_ (by rw[length_map]) ?_ (by rw[length_map];simp;omega) (λgn bb=>?_)
    ·intro q hq
     simp only[mem_singleton]at hq
     subst hq
     simp[Store.keys,n1]
     simpa[Store.keys]using n1.2.2.2.2
    ·intro d Y
     have h1:=bd d Y
     have h2:=o4 d Y
     simp[Store.keys]at h2 ⊢
     refine⟨λq=>n2.2.2.2 (q ▸ h1),λq=>n3.2.2 (q ▸ h1),h2.1,h2.2⟩
    ·simp[Store.keys,n2,n3,q1]
    (repeat' (simp only[EVz,seval,↓reduceIte,EV6,EV7,n1,n2,n3,q1,be,hw,D]))
    refine ap I ((doP c.1 x).1,c.2.1++[p],gn) ⟨ba,by rw[J];simp,?_,?_⟩ ?_
    ·rw[length_append];exact Nat.succ_le_succ o3
    ·intro d Y
     have:=bb d Y
     simp[Store.keys]at this ⊢
     exact⟨this.2.2.1,this.2.2.2⟩
    ·simp only[map_append,map_cons,map_nil,length_append,length_map,length_cons,length_nil]
     exact Weak.sub (SubN.tail (SubN.tail (SubN.refl _) _) _)
   ·rw[if_pos (.inr he)]at J
    (repeat' (first|(with_reducible (refine ab (λh=>?_) (λh=>?_))<;>(try simp only[DZ]at h))|(with_reducible first|refine aa N ?_|refine aa X ?_)|simp only[EVz,seval,↓reduceIte,EV6,EV7,I.yes,I.le0,I.lt',I.get,I.row,hw,Dd.cs,Itm.cs_eq,he,O,ac,hU,ad,D]|(with_reducible intro M E;(try(have F:=E;simp only[EVK]at F;(have D:=AI F D))))|(exfalso;omega)|fail))
    all_goals exact ap I c ⟨Z,J,by omega,o4⟩ (Weak.sub (SubN.tail (SubN.tail (SubN.refl _) _) _))
 ·(repeat' (simp only[EVz,seval,↓reduceIte,EV6,EV7,hn,D]))
  obtain⟨Z,J,o3,o4⟩:=T
  rw[allU_nil]at J
  simp only[append_nil]at J
  rw[J]at hR
  exact hR _ _ (.inr ⟨aR.rfl' _,.inr ⟨rfl,rfl⟩,trivial⟩)
end
def inI (n:Int):Prop:=-9223372036854775808<=n/\n<=9223372036854775807
theorem gD {n:Int} (h:inI n):(Lib.itoa n).length<=21:=Lib.itoa_length_le _ h.1 h.2
theorem idTx_len {i:Idd} (h:inI i.act/\inI i.item/\inI i.n):(idTx i).length<=100:=by
 have D:=gD h.1
 have E:=gD h.2.1
 have F:=gD h.2.2
 unfold idTx
 simp
 omega
section
variable (G:Glob)
theorem f27 (hG:GOk2 G) (i:Idd) (h:inI i.act/\inI i.item/\inI i.n):Pure G Tryz.prog 27 [.agg i.cs] (.str (idTx i)):=by
 have J:=gD h.1
 have M:=gD h.2.1
 have N:=gD h.2.2
 have D:=f51 G hG i.act h.1.1 h.1.2
 have E:=f51 G hG i.item h.2.1.1 h.2.1.2
 have F:=f51 G hG i.n h.2.2.1 h.2.2.2
 refine Pure.w c27 λR I=>?_
 unfold s27 r27
 unfold Idd.cs
 (repeat' (first|(with_reducible first|refine AI (by omega) ?_|refine aa D ?_|refine aa E ?_|refine aa F ?_)|simp only[EVz,seval,↓reduceIte,EV6,EV7,length_append,length_cons,length_nil]|fail))
 all_goals exact RET.eq I (congrArg AV.str (by simp[idTx]))
end
theorem lq {l:List Wd} (h:eR l=true):l.length<1000000/\∀w∈l,w.text.length<1000000:=by
 unfold eR at h
 simp only[Bool.and_eq_true,all_eq_true,decide_eq_true_eq]at h
 exact⟨by omega,λw D=>by have:=h.1 w D;omega⟩
theorem jv:∀{us:List U},U.shortss us=true->∀k∈us,k.shorts=true
 |[],_,k,hk=>by cases hk
 |u::us,h,k,hk=>by
  rw[U.shortss,Bool.and_eq_true]at h
  rcases mem_cons.1 hk with rfl|hk
  ·exact h.1
  ·exact jv h.2 k hk
theorem np:∀u:U,u.shorts=true->∀x∈u.flat,x.label.length<1000000/\x.head.length<1000000/\x.words.length<1000000/\(∀w∈x.head,w.text.length<1000000)/\(∀w∈x.words,w.text.length<1000000):=by
 refine U.ind λu ih h x D=>?_
 rw[U.shorts_eq]at h
 simp only[Bool.and_eq_true,decide_eq_true_eq]at h
 obtain⟨M,F,I,J⟩:=h
 rw[U.flat_eq]at D
 rcases mem_cons.1 D with rfl|D
 ·have a:=lq F
  have b:=lq I
  exact⟨by omega,a.1,b.1,a.2,b.2⟩
 ·obtain⟨k,E,D⟩:=pR D
  exact ih k E (jv J k E) x D
theorem kY {u:U} (O:u.fit) {m:Int} (T:0<=m) (V:m<=100000) (h:u.few m=true):u.Short:=by
 unfold U.few at h
 simp only[Bool.and_eq_true,decide_eq_true_eq]at h
 obtain⟨M,N⟩:=h
 have Z:=(U.size_ok u 0 m T).2.2 M
 exact⟨⟨O,by omega⟩,λx X=>by
  obtain⟨Y,E,F,I,J⟩:=np u N x X
  exact⟨by omega,E,F,λw D=>by have:=I w D;omega,λw D=>by have:=J w D;omega⟩⟩
theorem nD {l:List Stp} (h:bX l=true):∀s∈l,s.label.length<=100:=by
 unfold bX at h
 simp only[all_eq_true,decide_eq_true_eq]at h
 intro s D
 have:=h s D
 omega
theorem nC:∀{l:List Itm},Itm.fews l=true->∀y∈l,y.few=true
 |[],_,y,hy=>by cases hy
 |x::l,h,y,hy=>by
  rw[Itm.fews_cons,Bool.and_eq_true,Bool.and_eq_true]at h
  rcases mem_cons.1 hy with rfl|hy
  ·exact h.1.2
  ·exact nC h.2 y hy
theorem ov:∀x:Itm,x.fit->x.few=true->x.Shorts:=by
 refine Itm.ind λx ih I h=>?_
 rw[Itm.few_eq]at h
 unfold Itm.few0 at h
 simp only[Bool.and_eq_true,decide_eq_true_eq]at h
 obtain⟨⟨V,X,Y,Z,a5,a6,a7,a8,a9,D⟩,b1,b2,J,M,N⟩:=h
 obtain⟨h1,h2,O,h4,h5,h6,T⟩:=(Itm.fit_eq x).1 I
 refine(Itm.Shorts_eq x).2 ⟨⟨I,kY O (by omega) (by omega) D,by omega,by omega,λs E=>by have:=nD J s E;omega,λs E=>by have:=nD M s E;omega,by omega,by omega,by omega,by omega,by omega,by omega⟩,λy F=>ih y F (T y F) (nC N y F)⟩
section
variable (G:Glob) (hG:GOk G)
include hG
end
def jj (d e:Dd):Prop:=e.act=d.act/\e.item=d.item
def fw (d:Dd) (x:Idd):Prop:=d.act<1\/d.item<0\/(x.act=d.act/\x.item=d.item)
instance (d e:Dd):Decidable (jj d e):=inferInstanceAs (Decidable (_/\_))
instance (d:Dd) (x:Idd):Decidable (fw d x):=inferInstanceAs (Decidable (_\/_))
def ek (ids:List Idd):List Dd->List Dd->Bool
 |_,[]=>true
 |p,d::r=>if (∃e∈p,jj d e)\/(∃x∈ids,fw d x)then false else ek ids (p++[d]) r
theorem ij (d:Dd):d.cs.length=28:=by unfold Dd.cs;simp[Itm.cs_len]
theorem gu (d:Dd):(d.cs.drop 1).length=27:=by rw[length_drop,ij]
theorem jh (d:Dd):d.cs.headD .any= .int .i64 d.act:=rfl
theorem gh (d:Dd):(d.cs.drop 1).headD .any= .int .i64 d.item:=rfl
theorem kI {l:List Dd} {i k:Nat} {x y:Dd} (F:RestT l i k y) (h:∀e∈l.take k,¬jj x e) (E:¬jj x y):∀e∈l.take (k+1),¬jj x e:=by
 intro e D
 rw[F.take,mem_append,mem_singleton]at D
 rcases D with D|rfl
 ·exact h e D
 ·exact E
section
variable (G:Glob)
theorem f35 (u:U) (ht:u.Tame) (l:List Dd) (hl:l.length<1000000):Pure G Tryz.prog 35 [.agg u.cs,.lst 28 (l.map Dd.cs)] (.bool (ek u.ids [] l)):=by
 have hA:=f56 G u ht
 have an:u.ids.length<1000000000000000000:=by unfold U.ids;rw[length_map];have:=ht.2;omega
 refine Pure.w c35 λR Z=>?_
 unfold s35 r35
 (repeat' (first|(with_reducible (first|refine ab (λh=>?_) (λh=>?_)|refine ai (λh=>?_) (λh=>?_))<;>(try simp only[DZ]at h))|(with_reducible refine aa hA ?_)|simp only[EVz,seval,↓reduceIte,EV6,EV7,ij,gu,jh,gh,M.yes,M.le0,M.lt',M.row,ah,D.le0,D.lt',D.row]|simp only[EVz,seval,↓reduceIte,EV6,EV7,ij,gu,jh,gh,ac,D.le0,D.lt',D.row,Y]|simp only[EVz,seval,↓reduceIte,EV6,EV7,ij,gu,jh,gh,D.yes,D.le0,D.lt',D.get,D.row,Y]|simp only[EVz,seval,↓reduceIte,EV6,EV7,ij,gu,jh,gh,hn]|simp only[EVz,seval,↓reduceIte,EV6,EV7,ij,gu,jh,gh]|(with_reducible intro V N;(try(have X:=N;simp only[EVK]at X;(have aw:=X))))|(refine ay (l) (λi r (c:Unit)=>ek u.ids [] l=ek u.ids (l.take i) r) (λi c=>[(1,.lst 28 (l.map Dd.cs)),(5,.lst 3 (u.ids.map Idd.cs)),(6,.int .i64 i)]) (λ_ _=>[]) () (by rfl) (Weak.rfl' _ _) (by omega) (λi x r c O D Y=>?_) (λc O hn=>?_))|(refine W_take (l) (i) (Nat.le_of_lt D.lt) (λk (c:Unit)=>∀e∈l.take k,¬jj x e) (λk c=>[(1,.lst 28 (l.map Dd.cs)),(5,.lst 3 (u.ids.map Idd.cs)),(6,.int .i64 i),(7,.int .i64 k)]) (λ_ _=>[]) () (by simp) (Weak.rfl' _ _) (by have:=D.lt;omega) (λk y c J M ah=>?_) (λc J ac=>?_))|(refine qz M () ?_ (Weak.rfl' _ _))))
 ·refine RET.eq Z (congrArg AV.bool ?_)
  rw[O,ek,if_pos (.inl ⟨y,M.mem,‹_›,h⟩)]
 ·exact kI M J (λE=>h E.2) V N
 ·exact kI M J (λE=>h E.1) V N
 ·have bad:∀{z:Idd},fw x z->z∈u.ids->RET (.bool false) [] R:=λ{z} E hm=>RET.eq Z (congrArg AV.bool (by rw[O,ek,if_pos (.inr ⟨z,hm,E⟩)]))
  have T:∀{j:Nat} {z:Idd} {r2:List Idd},Rest u.ids j z r2->(∀y∈u.ids.take j,¬fw x y)->¬fw x z->∀y∈u.ids.take (j+1),¬fw x y:=λ{j z r2} I h hn y M=>by
   rw[I.take,mem_append,mem_singleton]at M
   rcases M with M|rfl
   ·exact h y M
   ·exact hn
  refine ay u.ids (λj r2 (c:Unit)=>∀z∈u.ids.take j,¬fw x z) (λj c=>[(1,.lst 28 (l.map Dd.cs)),(5,.lst 3 (u.ids.map Idd.cs)),(6,.int .i64 i),(8,.int .i64 j)]) (λ_ _=>[]) () (by simp) (Weak.rfl' _ _) (by omega) (λj z r2 c F I al=>?_) (λc F ad=>?_)
  ·(repeat' (first|(with_reducible (first|refine ab (λh=>?_) (λh=>?_)|refine ai (λh=>?_) (λh=>?_))<;>(try simp only[DZ]at h))|simp only[EVz,seval,↓reduceIte,EV6,EV7,I.yes,I.le0,I.lt',I.get,I.row,al,D.le0,D.lt',D.row,Y,ij,gu,jh,gh,Idd.cs]))
   ·exact bad (.inr (.inr ⟨‹_›,h⟩)) I.mem
   ·exact ap I () (T I F λE=>by rcases E with E|E|⟨_,E⟩<;>omega) (Weak.rfl' _ _)
   ·exact ap I () (T I F λE=>by rcases E with E|E|⟨E,_⟩<;>omega) (Weak.rfl' _ _)
   ·exact bad (.inr (.inl (by omega))) I.mem
   ·exact bad (.inl (by omega)) I.mem
  ·rw[take_length]at F
   (repeat' (simp only[EVz,seval,↓reduceIte,EV6,EV7,ad,D.le0,D.lt',D.row,Y]))
   refine ap D () ?_ (Weak.rfl' _ _)
   rw[O,ek,if_neg (by rintro(⟨e,he,E⟩|⟨z,I,E⟩);exact J e he E;exact F z I E),D.take]
 ·exact RET.eq Z (by rw[O,ek])
end
def lK (l:List Dd):Bool:=decide (l.length<=8)&&l.all λd=>d.it.few
def fineU (u:U) (l:List Dd):Bool:=u.few 30&&(ig u&&(lK l&&ek u.ids [] l))
theorem lR {ids:List Idd} (hi:ids≠[]):∀{l p:List Dd},ek ids p l=true->∀d∈l,1<=d.act
 |[],_,_,d,hd=>by cases hd
 |x::l,p,h,d,hd=>by
  rw[ek]at h
  split at h
  ·cases h
  ·rename_i E
   rw[not_or]at E
   rcases mem_cons.1 hd with rfl|hd
   ·obtain⟨y,F⟩:=exists_mem_of_ne_nil ids hi
    have:¬fw d y:=λD=>E.2 ⟨y,F,D⟩
    unfold fw at this
    omega
   ·exact lR hi h d hd
section
variable (G:Glob)
theorem f34 (l:List Dd) (X:l.length<9000000000000000000) (O:∀d∈l,d.it.fit):Pure G Tryz.prog 34 [.lst 28 (l.map Dd.cs)] (.bool (lK l)):=by
 refine Pure.w c34 λR F=>?_
 unfold s34 r34
 unfold lK at F
 have V:decide ((8:Int)<(l.length:Int))= !decide (l.length<=8):=by
  by_cases h:l.length<=8
  ·rw[decide_eq_true h,decide_eq_false (by omega)];rfl
  ·rw[decide_eq_false h,decide_eq_true (by omega)];rfl
 by_cases J:l.length<=8
 ·rw[decide_eq_true J,Bool.true_and]at F
  have I:((8:Int)<(l.length:Int))=False:=eq_false (by omega)
  (repeat' (first|simp only[EVz,seval,↓reduceIte,EV6,EV7,I,D.yes,D.le0,D.lt',D.get,D.row,N]|simp only[EVz,seval,↓reduceIte,EV6,EV7,I,T]|simp only[EVz,seval,↓reduceIte,EV6,EV7,I]|(refine ay l (λi r (c:Unit)=>(l.all λd=>d.it.few)=(r.all λd=>d.it.few)) (λi c=>[(0,.lst 28 (l.map Dd.cs)),(3,.int .i64 i)]) (λ_ _=>[]) () rfl (Weak.rfl' _ _) (by omega) (λi x r c E D N=>?_) (λc E T=>?_))|fail))
  ·have M:=f55 G x.it (O _ D.mem)
   rw[all_cons]at E
   rw[Itm.cs_eq]at M
   generalize x.it.few=t at*
   (repeat' (first|(with_reducible (refine ab (λh=>?_) (λh=>?_))<;>(try simp only[DZ]at h))|(with_reducible refine aa M ?_)|simp only[EVz,seval,↓reduceIte,EV6,EV7,D.yes,D.le0,D.lt',D.get,D.row,N,Dd.cs,Itm.cs_eq]|fail))
   ·exact RET.eq F (by rw[E,h];rfl)
   ·exact ap D () (by rw[E,h,Bool.true_and]) (Weak.rfl' _ _)
  ·(repeat' ((exfalso;omega)))
   exact RET.eq F (by rw[E];rfl)
 ·rw[decide_eq_false J,Bool.false_and]at F
  have I:((8:Int)<(l.length:Int))=True:=eq_true (by omega)
  (repeat' (simp only[EVz,seval,↓reduceIte,EV6,EV7,I]))
  exact RET.eq F rfl
theorem f13 (u:U) (I:u.fit) (l:List Dd) (Z:l.length<1000000000000000000) (X:∀d∈l,d.it.fit):Pure G Tryz.prog 13 [.agg u.cs,.lst 28 (l.map Dd.cs)] (.bool (fineU u l)):=by
 have F:=f9 G u 30 I (by omega) (by omega)
 have O:=f34 G l (by omega) X
 refine Pure.w c13 λR D=>?_
 unfold s13 r13
 unfold fineU at D
 cases E:u.few 30 with
 |false=>
  rw[E]at F D
  (repeat' (first|(with_reducible refine aa F ?_)|simp only[EVz,seval,↓reduceIte,EV6,EV7]|fail))
  all_goals exact RQ D
 |true=>
 have V:=kY I (by omega) (by omega) E
 have N:=f33 G u V
 cases M:ig u with
 |false=>
  rw[E]at F
  rw[E,M]at D
  rw[M]at N
  (repeat' (first|(with_reducible first|refine aa F ?_|refine aa N ?_)|simp only[EVz,seval,↓reduceIte,EV6,EV7]|fail))
  all_goals exact RQ D
 |true=>
 rw[M]at N
 cases J:lK l with
 |false=>
  rw[E]at F
  rw[E,M,J]at D
  rw[J]at O
  (repeat' (first|(with_reducible first|refine aa F ?_|refine aa N ?_|refine aa O ?_)|simp only[EVz,seval,↓reduceIte,EV6,EV7]|fail))
  all_goals exact RQ D
 |true=>
 have Y:l.length<=8:=by
  unfold lK at J
  simp only[Bool.and_eq_true,decide_eq_true_eq]at J
  exact J.1
 have T:=f35 G u V.1 l (by omega)
 rw[E]at F
 rw[E,M,J]at D
 rw[J]at O
 simp only[Bool.true_and]at D
 (repeat' (first|(with_reducible first|refine aa F ?_|refine aa N ?_|refine aa O ?_|refine aa T ?_)|simp only[EVz,seval,↓reduceIte,EV6,EV7]|fail))
 all_goals exact RQ D
end
section
variable (G:Glob)
variable (hG:GOk G)
include hG
end
theorem le_zU:LeRep (.agg zU) (.agg eQ.cs):=by
 refine LeRep.agg ?_
 rw[U.cs_eq]
 unfold zU
 repeat' first
  |exact LeReps.nil
  |refine LeReps.cons ?_ ?_
 all_goals first|exact LeRep.refl _|exact LeRep.nil
section
variable (G:Glob) (hG:GOk G)
include hG
end
end Go.Av
