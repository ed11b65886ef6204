/-
  UNDO LAWS, 3: a single item undone.
-/
import Derived.Test.YtnoakpkjccigoaaGreatDoorVXV14toXV15
namespace Go.Av
open Go Go.RowKit Go.Proofs List
set_option linter.unusedSimpArgs false
set_option linter.unusedVariables false
theorem oP {u:U} {l:List Dd} (J:u.fit) (N:∀d∈l,d.it.fit) (h:rH u l=true):Good u/\u.kind=0/\l.length<=8/\(∀d∈l,d.it.Shorts)/\∀d∈l,1<=d.act:=by
 unfold rH at h
 simp only[Bool.and_eq_true]at h
 obtain⟨T,D,E,M⟩:=h
 have O:=nW D
 have F:u.kind=0:=by unfold ig at D;simp only[Bool.and_eq_true,decide_eq_true_eq]at D;exact D.1
 unfold lK at E
 simp only[Bool.and_eq_true,decide_eq_true_eq,all_eq_true]at E
 exact⟨O,F,E.1,λd I=>ov d.it (N d I) (E.2 d I),lR (by rw[U.ids_eq];simp) M⟩
theorem i7:noU.flat.length<=1000000:=by
 have D:noU.flat=[noU]:=by rw[U.flat_eq];show noU::U.flats []=_;rw[U.flats]
 rw[D];decide
theorem undo_unit {u:U} (I:Good u) (d:Dd):(invP u d).1.unit.Short/\(invP u d).1.unit.flat.length<=1000000/\(invP u d).1.words.length<1000000:=by
 have J:=I.short
 have D:=fb J (one u d.it.at_).1
 have F:(fnd (one u d.it.at_).1 u).flat.length<=1000000:=by have:=D.1.2;omega
 have E:=(D.2 _ (U.flat_self _))
 unfold invP
 split
 ·exact⟨dK,i7,by simp[zPt]⟩
 ·unfold mkPt
  split
  ·exact⟨dK,i7,by simp⟩
  split
  ·exact⟨D,F,by simp⟩
  split
  ·exact⟨dK,i7,E.2.2.1⟩
  split
  ·exact⟨dK,i7,E.2.1⟩
  split
  ·exact⟨dK,i7,by simp⟩
  ·exact⟨dK,i7,by simp⟩
section
variable (G:Glob) (hG:GOk G) (hG2:GOk2 G)
include hG hG2
end
end Go.Av
