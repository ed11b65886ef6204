/-
  UNDO LAWS, 6: items applied again.
-/
import Derived.Test.YtnoakpkjccigoaaGreatDoorVXT5
namespace Go.Av
open Go Go.RowKit Go.Proofs List
set_option linter.unusedSimpArgs false
set_option linter.unusedVariables false
section
variable (G:Glob)
set_option maxHeartbeats 4000000 in
theorem f21 (p:Pt) (O:p.unit.Short) (T:p.words.length<1000000):Pure G Tryz.prog 21 [.agg p.cs,.agg p.cs] (.bool true):=by
 have J:=f16 G p.unit (rm _ O) p.unit
 have F:=f42 G p.words p.words (by omega)
 rw[decide_eq_true rfl]at J F
 rw[U.cs_eq p.unit]at J
 refine Pure.w c21 λR N=>?_
 unfold s21 r21
 unfold Pt.cs
 (repeat' (first|(with_reducible (first|refine ab (λh=>?_) (λh=>?_)|refine ai (λh=>?_) (λh=>?_)|refine aj (λh=>?_) (λh=>?_))<;>(try simp only[DZ]at h))|(with_reducible first|refine AI (by omega) ?_|refine aa J ?_|refine aa F ?_)|simp only[EVz,seval,↓reduceIte,EV6,EV7,D]|simp only[EVz,seval,↓reduceIte,EV6,EV7]|(with_reducible intro M I;(try(have E:=I;simp only[EVK]at E;first|(have D:=AI E D)|(have D:=E))))|(with_reducible first|refine ae ?_ ?_|refine af ?_)|(exfalso;omega)))
 all_goals first|exact RQ N|exact absurd h (by decide)
end
section
variable (G:Glob) (hG:GOk G) (hG2:GOk2 G)
include hG hG2
set_option maxHeartbeats 8000000 in
theorem f7 (u:U) (M:u.fit) (l:List Dd) (hl:l.length<1000000000000000000) (hb:∀d∈l,d.it.big):Pure G Tryz.prog 7 [.agg u.cs,.lst 28 (l.map Dd.cs)] (.bool true):=by
 have hf:∀d∈l,d.it.fit:=λd hd=>rU d.it (hb d hd)
 have O:=f10 G hG hG2
 have J:=f13 G u M l hl hf
 cases h1:rH u l with
 |false=>
  rw[h1]at J
  refine Pure.w c7 λR hR=>?_
  unfold s7 r7
  (repeat' (first|(with_reducible (first|refine ab (λh=>?_) (λh=>?_)|refine ai (λh=>?_) (λh=>?_)|refine aj (λh=>?_) (λh=>?_))<;>(try simp only[DZ]at h))|(with_reducible first|refine AI (by omega) ?_|refine aa O ?_|refine aa J ?_)|simp only[EVz,seval,↓reduceIte,EV6,EV7,D]|simp only[EVz,seval,↓reduceIte,EV6,EV7]|(with_reducible intro N F;(try(have E:=F;simp only[EVK]at E;first|(have D:=AI E D)|(have D:=E))))|(with_reducible first|refine ae ?_ ?_|refine af ?_)|(exfalso;omega)))
  all_goals exact RQ hR
 |true=>
 rw[h1]at J
 obtain⟨hg,al,h8,ba,ha⟩:=oP M hf h1
 have hA:=f19 G hG u hg l (by omega) ba
 have hB:=rp G hG hg al l (by omega) ha
 have T:=f16 G (allU u l).1 (rm _ (iY hg al).1.short) (allU u l).1
 rw[decide_eq_true rfl]at T
 unfold mb at hA
 unfold aO at hB
 have Y:=U.cs_len (allU u l).1
 have Z:(allU u l).1.cs.take 8=(allU u l).1.cs:=take_of_length_le (by omega)
 have V:=U.cs_len u
 have X:u.cs.take 8=u.cs:=take_of_length_le (by omega)
 have bb:=rB l u
 have aw:=rh (l:=l) hg
 generalize (allU u l).1.cs=vs at*
 generalize (allU u l).2=ps at*
 have e2:decide ((ps.length:Int)≠(ps.length:Int))=false:=decide_eq_false (λh=>h rfl)
 refine Pure.w c7 λR hR=>?_
 unfold s7 r7
 (repeat' (first|(with_reducible (first|refine ab (λh=>?_) (λh=>?_)|refine ai (λh=>?_) (λh=>?_)|refine aj (λh=>?_) (λh=>?_))<;>(try simp only[DZ]at h))|(with_reducible first|refine AI (by omega) ?_|refine aa O ?_|refine aa J ?_|refine aa hA ?_|refine aa hB ?_|refine aa T ?_)|simp only[EVz,seval,↓reduceIte,EV6,EV7,Y,Z,V,X,e2,D]|simp only[EVz,seval,↓reduceIte,EV6,EV7,Y,Z,V,X,e2]|(with_reducible intro N F;(try(have E:=F;simp only[EVK]at E;first|(have D:=AI E D)|(have D:=E))))|(with_reducible first|refine ae ?_ ?_|refine af ?_)|(exfalso;omega)))
 all_goals refine ay ps (λi r (c:Unit)=>True) (λi c=>[(6,.lst 18 (ps.map Pt.cs)),(10,.lst 18 (ps.map Pt.cs)),(49,.int .i64 ps.length),(50,.int .i64 i)]) (λ_ _=>[]) () trivial (Weak.sub (SubN.nil _)) (by omega) (λi x r c an I hw=>?_) (λc an hn=>?_)
 ·obtain⟨t1,t2,t3⟩:=aw x I.mem
  have hX:=f21 G x t1 t3
  have ac:=Pt.cs_len x
  have ah:x.cs.take 18=x.cs:=take_of_length_le (by omega)
  (repeat' (first|(with_reducible (first|refine ab (λh=>?_) (λh=>?_)|refine ai (λh=>?_) (λh=>?_)|refine aj (λh=>?_) (λh=>?_))<;>(try simp only[DZ]at h))|(with_reducible first|refine AI (by omega) ?_|refine aa hX ?_)|simp only[EVz,seval,↓reduceIte,EV6,EV7,I.yes,I.le0,I.lt',I.get,I.row,hw,ac,ah,D]|simp only[EVz,seval,↓reduceIte,EV6,EV7,I.yes,I.le0,I.lt',I.get,I.row,hw,ac,ah]|(with_reducible intro N F;(try(have E:=F;simp only[EVK]at E;first|(have D:=AI E D)|(have D:=E))))|(with_reducible first|refine ae ?_ ?_|refine af ?_)|(exfalso;omega)))
  all_goals first|exact ap I () trivial (Weak.sub (SubN.nil _))|trace_state
 ·(repeat' (first|(with_reducible (first|refine ab (λh=>?_) (λh=>?_)|refine ai (λh=>?_) (λh=>?_)|refine aj (λh=>?_) (λh=>?_))<;>(try simp only[DZ]at h))|(with_reducible first|refine AI (by omega) ?_|refine aa O ?_)|simp only[EVz,seval,↓reduceIte,EV6,EV7,hn,D]|simp only[EVz,seval,↓reduceIte,EV6,EV7,hn]|(with_reducible intro N F;(try(have E:=F;simp only[EVK]at E;first|(have D:=AI E D)|(have D:=E))))|(with_reducible first|refine ae ?_ ?_|refine af ?_)|(exfalso;omega)))
  all_goals first|exact RQ hR|trace_state
end
end Go.Av
