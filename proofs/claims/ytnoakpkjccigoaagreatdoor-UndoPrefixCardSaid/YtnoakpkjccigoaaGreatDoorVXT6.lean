/-
  UNDO LAWS, 5: the last items taken back.
-/
import Derived.Test.YtnoakpkjccigoaaGreatDoorVXT5
namespace Go.Av
open Go Go.RowKit Go.Proofs List
set_option linter.unusedSimpArgs false
set_option linter.unusedVariables false
section
variable (G:Glob) (hG:GOk G) (hG2:GOk2 G)
include hG hG2
set_option maxHeartbeats 8000000 in
theorem f6 (u:U) (J:u.fit) (l:List Dd) (hl:l.length<1000000000000000000) (hb:∀d∈l,d.it.big) (k:Int) (hk:0<=k/\k<256):Pure G Tryz.prog 6 [.agg u.cs,.lst 28 (l.map Dd.cs),.int .u8 k] (.bool true):=by
 have hf:∀d∈l,d.it.fit:=λd Z=>rU d.it (hb d Z)
 have O:=f10 G hG hG2
 have I:=f13 G u J l hl hf
 cases h1:rH u l with
 |false=>
  rw[h1]at I
  refine Pure.w c6 λR hR=>?_
  unfold s6 r6
  (repeat' (first|(with_reducible (first|refine ab (λh=>?_) (λh=>?_)|refine ai (λh=>?_) (λh=>?_)|refine aj (λh=>?_) (λh=>?_))<;>(try simp only[DZ]at h))|(with_reducible first|refine AI (by omega) ?_|refine aa O ?_|refine aa I ?_)|simp only[EVz,seval,↓reduceIte,EV6,EV7,D]|simp only[EVz,seval,↓reduceIte,EV6,EV7]|(with_reducible intro ba F;(try(have E:=F;simp only[EVK]at E;first|(have D:=AI E D)|(have D:=E))))|(with_reducible first|refine ae ?_ ?_|refine af ?_)|(exfalso;omega)))
  all_goals exact RQ hR
 |true=>
 rw[h1]at I
 obtain⟨hg,bb,h8,ah,ha⟩:=oP J hf h1
 obtain⟨n,hn⟩:∃n,k.toNat % (l.length+1)=n:=⟨_,rfl⟩
 have bd:n<=l.length:=by have:=Nat.mod_lt k.toNat (show 0<l.length+1 by omega);omega
 have al:IntKind.i64.wrap k=k:=aA (by omega) (by omega)
 have an:IntKind.i64.wrap ((l.length:Int)+1)=(l.length:Int)+1:=aA (by omega) (by omega)
 have aw:k.tmod ((l.length:Int)+1)=(n:Int):=by
  rw[Int.tmod_eq_emod_of_nonneg hk.1,←hn]
  have:(k.toNat:Int)=k:=by omega
  rw[Int.natCast_emod,this]
  rfl
 have M:=f19 G hG u hg (l.take n) (by rw[length_take];omega) (λd Z=>ah d (mem_of_mem_take Z))
 have N:=f19 G hG u hg l (by omega) ah
 obtain⟨g1,g2⟩:=iY (l:=l.take n) hg bb
 have hB:=rp G hG g1 g2 (l.drop n) (by rw[length_drop];omega) (λd Z=>ha d (mem_of_mem_drop Z))
 have e:=rI (a:=l.take n) (b:=l.drop n) (u:=u)
 rw[take_append_drop]at e
 have e1:=congrArg Prod.fst e
 have e2:(allU (allU u (l.take n)).1 (l.drop n)).2=(allU u l).2.drop (allU u (l.take n)).2.length:=by
  rw[e];simp
 simp only at e1
 rw[←e1,e2]at hB
 have e3:(allU u (l.take n)).2.length<=(allU u l).2.length:=by rw[e];simp
 have hS:=f16 G (allU u (l.take n)).1 (rm _ g1.short) (allU u (l.take n)).1
 rw[decide_eq_true rfl]at hS
 unfold mb at M N
 unfold aO at hB
 have X:=U.cs_len (allU u l).1
 have Y:(allU u l).1.cs.take 8=(allU u l).1.cs:=take_of_length_le (by omega)
 have T:=U.cs_len (allU u (l.take n)).1
 have V:(allU u (l.take n)).1.cs.take 8=(allU u (l.take n)).1.cs:=take_of_length_le (by omega)
 have be:=rB l u
 rw[map_take]at M
 rw[map_drop]at hB
 generalize (allU u l).1.cs=vs at*
 generalize (allU u l).2=ps at*
 generalize (allU u (l.take n)).1.cs=us at*
 generalize (allU u (l.take n)).2=qs at*
 have ac:(ps.map Pt.cs).take ps.length=ps.map Pt.cs:=take_of_length_le (by rw[length_map];exact Nat.le_refl _)
 refine Pure.w c6 λR hR=>?_
 unfold s6 r6
 (repeat' (first|(with_reducible (first|refine ab (λh=>?_) (λh=>?_)|refine ai (λh=>?_) (λh=>?_)|refine aj (λh=>?_) (λh=>?_))<;>(try simp only[DZ]at h))|(with_reducible first|refine AI (by omega) ?_|refine aa O ?_|refine aa I ?_|refine aa M ?_|refine aa N ?_|refine aa hB ?_|refine aa hS ?_)|simp only[EVz,seval,↓reduceIte,EV6,EV7,al,an,aw,X,Y,T,V,ac,Int.toNat_natCast,D]|simp only[EVz,seval,↓reduceIte,EV6,EV7,al,an,aw,X,Y,T,V,ac,Int.toNat_natCast]|(with_reducible intro ba F;(try(have E:=F;simp only[EVK]at E;first|(have D:=AI E D)|(have D:=E))))|(with_reducible first|refine ae ?_ ?_|refine af ?_)|(exfalso;omega)))
 all_goals first|exact RQ hR|(exfalso;omega)|trace_state
end
end Go.Av
