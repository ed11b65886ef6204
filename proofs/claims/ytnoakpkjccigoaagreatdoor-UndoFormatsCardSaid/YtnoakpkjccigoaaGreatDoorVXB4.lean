/-
  UNDO LAWS, 3: the text of a patch as by the reference.
-/
import Derived.Test.YtnoakpkjccigoaaGreatDoorVXOpQtoXB3
import Derived.Test.YtnoakpkjccigoaaGreatDoorVXV14toXV15
namespace Go.Av
open Go Go.RowKit Go.Proofs List
set_option linter.unusedSimpArgs false
set_option linter.unusedVariables false
def totL:List Wd->Nat
 |[]=>0
 |w::l=>w.text.length+totL l
theorem totL_le {b:Nat}:∀{l:List Wd},(∀x∈l,x.text.length<=b)->totL l<=l.length*b
 |[],_=>by simp[totL]
 |w::l,h=>by
  have E:=h w mem_cons_self
  have F:=totL_le (l:=l) λx D=>h x (mem_cons_of_mem _ D)
  rw[totL,length_cons,Nat.add_mul]
  omega
theorem se:∀l:List Wd,(ey l).length=l.length+totL l
 |[]=>rfl
 |w::l=>by
  have:=se l
  rw[ru,length_append,length_cons,length_cons,totL,this]
  omega
section
variable (G:Glob) (hG:GOk G) (hG2:GOk2 G)
include hG hG2
set_option maxHeartbeats 8000000 in
theorem f3 (p:Pt) (hx:p.unit.fit) (hl:p.label.length<=reachBytes) (hw:p.words.length<1000000000000000000/\∀x∈p.words,x.text.length<=reachBytes) (hs:p.Small):Pure G Tryz.prog 3 [.agg p.cs] (.bool true):=by
 have N:=f10 G hG hG2
 have J:=f9 G p.unit 30 hx (by omega) (by omega)
 rw[U.cs_eq p.unit]at J
 unfold reachBytes at hl hw
 have ac:=totL_le hw.2
 refine Pure.w c3 λR Z=>?_
 unfold s3 r3
 (repeat' (first|(with_reducible (first|refine ab (λh=>?_) (λh=>?_)|refine ai (λh=>?_) (λh=>?_)|refine aj (λh=>?_) (λh=>?_))<;>(try simp only[DZ]at h))|(with_reducible refine AI (by omega) ?_)|simp only[EVz,seval,↓reduceIte,EV6,EV7,Pt.cs,D]|simp only[EVz,seval,↓reduceIte,EV6,EV7,Pt.cs]|(with_reducible intro M F;(try(have E:=F;simp only[EVK]at E;first|(have D:=AI E D)|(have D:=E))))|(with_reducible first|refine ae ?_ ?_|refine af ?_)|(exfalso;omega)))
 refine ay (ι:=Int) p.words (λi r c=>p.words.length<=60->c+totL r=p.label.length+totL p.words/\0<=c) (λi c=>[(1,.ref p.cs),(3,.int .i64 c),(10,.lst 4 (p.words.map Wd.cs)),(11,.int .i64 p.words.length),(12,.int .i64 i)]) (λ_ _=>[]) p.label.length (λ_=>⟨rfl,by omega⟩) (Weak.rfl' _ _) (by omega) (λi x r c O I Y=>?_) (λc O T=>?_)
 ·(repeat' (first|(with_reducible (first|refine ab (λh=>?_) (λh=>?_)|refine ai (λh=>?_) (λh=>?_)|refine aj (λh=>?_) (λh=>?_))<;>(try simp only[DZ]at h))|(with_reducible refine AI (by omega) ?_)|simp only[EVz,seval,↓reduceIte,EV6,EV7,I.yes,I.le0,I.lt',I.get,I.row,Y,Wd.cs,D]|simp only[EVz,seval,↓reduceIte,EV6,EV7,I.yes,I.le0,I.lt',I.get,I.row,Y,Wd.cs]|(with_reducible intro M F;(try(have E:=F;simp only[EVK]at E;first|(have D:=AI E D)|(have D:=E))))|(with_reducible first|refine ae ?_ ?_|refine af ?_)|(exfalso;omega)))
  refine ap I _ (λh=>?_) (Weak.sub (SubN.nil _))
  obtain⟨o1,o2⟩:=O h
  have ah:p.words.length*140737488351232<=60*140737488351232:=Nat.mul_le_mul_right _ h
  rw[totL]at o1
  rw[aA (by omega) (by omega)]
  omega
 ·cases hf:p.unit.few 30 with
  |false=>
   rw[hf]at J
   (repeat' (first|(with_reducible (first|refine ab (λh=>?_) (λh=>?_)|refine ai (λh=>?_) (λh=>?_)|refine aj (λh=>?_) (λh=>?_))<;>(try simp only[DZ]at h))|(with_reducible first|refine AI (by omega) ?_|refine aa N ?_|refine aa J ?_)|simp only[EVz,seval,↓reduceIte,EV6,EV7,T,Pt.cs,D]|simp only[EVz,seval,↓reduceIte,EV6,EV7,T,Pt.cs]|(with_reducible intro M F;(try(have E:=F;simp only[EVK]at E;first|(have D:=AI E D)|(have D:=E))))|(with_reducible first|refine ae ?_ ?_|refine af ?_)|(exfalso;omega)))
   all_goals exact RQ Z
  |true=>
   rw[hf]at J
   by_cases h6:p.words.length<=60/\c<=2000
   ·obtain⟨o1,o2⟩:=O h6.1
    have h7:=se p.words
    rw[totL]at o1
    have V:=f11a G hG2 p hs (by omega) (by omega) (by omega)
    have X:=f12 G p hs (by omega) (by omega) (by omega)
    have e1:decide (fmtP p=fmtP p)=true:=decide_eq_true rfl
    generalize fmtP p=t at*
    unfold Pt.cs at V X ⊢
    (repeat' (first|(with_reducible (first|refine ab (λh=>?_) (λh=>?_)|refine ai (λh=>?_) (λh=>?_)|refine aj (λh=>?_) (λh=>?_))<;>(try simp only[DZ]at h))|(with_reducible first|refine AI (by omega) ?_|refine aa N ?_|refine aa J ?_|refine aa V ?_|refine aa X ?_)|simp only[EVz,seval,↓reduceIte,EV6,EV7,T,e1,D]|simp only[EVz,seval,↓reduceIte,EV6,EV7,T,e1]|(with_reducible intro M F;(try(have E:=F;simp only[EVK]at E;first|(have D:=AI E D)|(have D:=E))))|(with_reducible first|refine ae ?_ ?_|refine af ?_)|(exfalso;omega)))
    all_goals first|exact RQ Z|(exfalso;omega)|trace_state
   ·(repeat' (first|(with_reducible (first|refine ab (λh=>?_) (λh=>?_)|refine ai (λh=>?_) (λh=>?_)|refine aj (λh=>?_) (λh=>?_))<;>(try simp only[DZ]at h))|(with_reducible first|refine AI (by omega) ?_|refine aa N ?_|refine aa J ?_)|simp only[EVz,seval,↓reduceIte,EV6,EV7,T,Pt.cs,D]|simp only[EVz,seval,↓reduceIte,EV6,EV7,T,Pt.cs]|(with_reducible intro M F;(try(have E:=F;simp only[EVK]at E;first|(have D:=AI E D)|(have D:=E))))|(with_reducible first|refine ae ?_ ?_|refine af ?_)|(exfalso;omega)))
    all_goals first|exact RQ Z|(exfalso;omega)|trace_state
end
end Go.Av
