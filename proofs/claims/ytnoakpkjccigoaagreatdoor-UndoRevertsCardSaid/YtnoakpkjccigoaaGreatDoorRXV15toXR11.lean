/-
  UNDO LAWS, 2: the example of the chapter; a single item undone.
-/
import Derived.Test.YtnoakpkjccigoaaGreatDoorRXV12toXN2
import Derived.Test.YtnoakpkjccigoaaGreatDoorRXR7toXR10
namespace Go.Av
open Go Go.RowKit Go.Proofs List
set_option linter.unusedSimpArgs false
set_option linter.unusedVariables false
def fX:U:=⟨zId,2,[53],[],[],[]⟩
def eItm:Itm:=⟨0,[],[],1,0,fX,[],[],[],[],⟨0,0,[]⟩,0,0,0,[],[]⟩
def eDd:Dd:=⟨1,0,0,eItm⟩
def ePt:Pt:=⟨0,0,⟨1,0,1⟩,zId,noU,[],[]⟩
def k7:U:=⟨zId,0,[],[],[],[⟨⟨1,0,1⟩,2,[53],[],[],[]⟩]⟩
set_option maxRecDepth 100000 in
theorem e_all:allU eQ [eDd]=(k7,[ePt]):=by kernel_rfl
set_option maxRecDepth 100000 in
theorem e_rev:revP k7 ePt=(eQ,0):=by kernel_rfl
theorem e_unit:fX.Short:=by
 have F:fX.fit:=(U.fit_eq _).2 ⟨by decide,⟨by decide,by simp[fX]⟩,⟨by decide,by simp[fX]⟩,by decide,by simp[fX]⟩
 have D:fX.flat=[fX]:=by rw[U.flat_eq];show fX::U.flats []=_;rw[U.flats]
 refine⟨⟨F,by rw[D];decide⟩,?_⟩
 rw[D]
 intro x E
 simp only[mem_singleton]at E
 subst E
 exact⟨by decide,by decide,by decide,by simp[fX],by simp[fX]⟩
theorem e_itm:eItm.Shorts:=(Itm.Shorts_eq _).2 ⟨⟨(Itm.fit_eq _).2 ⟨by decide,by decide,e_unit.1.1,by decide,by decide,by decide,by simp[eItm]⟩,e_unit,by decide,by decide,by simp[eItm],by simp[eItm],by decide,by decide,by decide,by decide,by decide,by decide⟩,by simp[eItm]⟩
def eRow:List AV:=[.int .i64 1,.int .i64 0,.int .i64 0,.int .i64 0,.nil,.nil,.int .i64 1,.int .i64 0,.int .i64 0,.int .i64 0,.int .i64 0,.int .i64 2,.str [53],.nil,.nil,.nil,.nil,.nil,.str [],.str [],.int .i64 0,.int .i64 0,.str [],.int .i64 0,.int .i64 0,.int .i64 0,.str [],.nil]
theorem le_eRow:LeReps eRow (Dd.cs eDd):=by
 unfold eRow Dd.cs
 rw[Itm.cs_eq]
 repeat' first
  |exact LeReps.nil
  |refine LeReps.cons ?_ ?_
 all_goals first|exact LeRep.refl _|exact LeRep.nil
theorem e_good:Good k7:=by
 have:=(iY (l:=[eDd]) (u:=eQ) lf rfl).1
 rw[e_all]at this
 exact this
def eAV:AV:=.tup [.agg [.int .i64 0,.int .i64 0,.int .i64 0,.int .i64 0,.str [],.lst 4 [],.lst 4 [],.lst 8 [[.int .i64 1,.int .i64 0,.int .i64 1,.int .i64 2,.str [53],.lst 4 [],.lst 4 [],.lst 8 []]]],
 .lst 18 [[.int .i64 0,.int .i64 0,.int .i64 1,.int .i64 0,.int .i64 1,.int .i64 0,.int .i64 0,.int .i64 0,.int .i64 0,.int .i64 0,.int .i64 0,.int .i64 0,.str [],.lst 4 [],.lst 4 [],.lst 8 [],.str [],.lst 4 []]]]
theorem e_av:mb (k7,[ePt])=eAV:=by kernel_rfl
theorem e_bk:k7.cs=[.int .i64 0,.int .i64 0,.int .i64 0,.int .i64 0,.str [],.lst 4 [],.lst 4 [],.lst 8 [[.int .i64 1,.int .i64 0,.int .i64 1,.int .i64 2,.str [53],.lst 4 [],.lst 4 [],.lst 8 []]]]:=by kernel_rfl
theorem e_pt:ePt.cs=[.int .i64 0,.int .i64 0,.int .i64 1,.int .i64 0,.int .i64 1,.int .i64 0,.int .i64 0,.int .i64 0,.int .i64 0,.int .i64 0,.int .i64 0,.int .i64 0,.str [],.lst 4 [],.lst 4 [],.lst 8 [],.str [],.lst 4 []]:=by kernel_rfl
theorem e_em:aO (eQ,0)= .tup [.agg [.int .i64 0,.int .i64 0,.int .i64 0,.int .i64 0,.str [],.lst 4 [],.lst 4 [],.lst 8 []],.int .i64 0]:=by kernel_rfl
theorem e_tx:[105,110,115,101,114,116,101,100,32]++idTx ePt.id=[105,110,115,101,114,116,101,100,32,49,46,48,46,49]:=by
 unfold idTx ePt
 rw[fA (n:=1) (by decide) (by decide),fA (n:=0) (by decide) (by decide)]
 rfl
section
variable (G:Glob) (hG:GOk G) (hG2:GOk2 G)
theorem f26:Pure G Tryz.prog 26 [] (.agg zU):=by
 refine Pure.w c26 λR J=>?_
 unfold s26 r26
 (repeat' (first|(with_reducible (first|refine ab (λh=>?_) (λh=>?_)|refine ai (λh=>?_) (λh=>?_)|refine aj (λh=>?_) (λh=>?_))<;>(try simp only[DZ]at h))|(with_reducible refine AI (by omega) ?_)|simp only[EVz,seval,↓reduceIte,EV6,EV7,D]|simp only[EVz,seval,↓reduceIte,EV6,EV7]|(with_reducible intro I F;(try(have E:=F;simp only[EVK]at E;first|(have D:=AI E D)|(have D:=E))))|(with_reducible first|refine ae ?_ ?_|refine af ?_)|(exfalso;omega)))
 all_goals exact RQ J
theorem Fmt0 (hG2:GOk2 G) (p:Pt) (N:p.kind=0) (h:inI p.id.act/\inI p.id.item/\inI p.id.n):Pure G Tryz.prog 11 [.agg p.cs] (.str ([105,110,115,101,114,116,101,100,32]++idTx p.id)):=by
 have T:=idTx_len h
 have I:=f27 G hG2 p.id h
 simp only[Idd.cs]at I
 have J:decide (p.kind=0)=true:=decide_eq_true N
 refine Pure.w c11 λR O=>?_
 unfold s11 r11
 unfold Pt.cs
 (repeat' (first|(with_reducible (first|refine ab (λh=>?_) (λh=>?_)|refine ai (λh=>?_) (λh=>?_)|refine aj (λh=>?_) (λh=>?_))<;>(try simp only[DZ]at h))|(with_reducible first|refine AI (by omega) ?_|refine aa I ?_)|simp only[EVz,seval,↓reduceIte,EV6,EV7,J,length_append,length_cons,length_nil,D]|simp only[EVz,seval,↓reduceIte,EV6,EV7,J,length_append,length_cons,length_nil]|(with_reducible intro M F;(try(have E:=F;simp only[EVK]at E;first|(have D:=AI E D)|(have D:=E))))|(with_reducible first|refine ae ?_ ?_|refine af ?_)|(exfalso;omega)))
 all_goals exact RQ O
include hG
theorem u_call (g:Option Nat):Pure G Tryz.prog 19 [.agg zU,.own g 54 28 [eRow]] (mb (k7,[ePt])):=by
 have h:=f19 G hG eQ lf [eDd] (by decide) (λx D=>by
  simp only[mem_singleton]at D
  subst D
  exact e_itm)
 rw[e_all]at h
 exact h.lr (.cons le_zU (.cons (LeRep.own (.cons le_eRow .nil)) .nil))
include hG2
set_option maxHeartbeats 4000000 in
theorem f10:Pure G Tryz.prog 10 [] (.bool true):=by
 have M:=f26 G
 have J:=u_call G hG
 have N:=Fmt0 G hG2 ePt rfl ⟨⟨by decide,by decide⟩,⟨by decide,by decide⟩,by decide,by decide⟩
 have F:=f14 G hG k7 e_good rfl ePt dK (by decide) (by decide)
 rw[e_rev,e_em,e_bk,e_pt]at F
 rw[e_tx,e_pt]at N
 rw[e_av]at J
 unfold eAV zU eRow at J
 unfold zU at M
 refine Pure.w c10 λR T=>?_
 unfold s10 r10
 (repeat' (first|(with_reducible (first|refine ab (λh=>?_) (λh=>?_)|refine ai (λh=>?_) (λh=>?_)|refine aj (λh=>?_) (λh=>?_))<;>(try simp only[DZ]at h))|(with_reducible first|refine AI (by omega) ?_|refine aa M ?_|refine aa (J _) ?_|refine aa N ?_|refine aa F ?_)|simp only[EVz,seval,↓reduceIte,EV6,EV7,D]|simp only[EVz,seval,↓reduceIte,EV6,EV7]|(with_reducible intro O I;(try(have E:=I;simp only[EVK]at E;first|(have D:=AI E D)|(have D:=E))))|(with_reducible first|refine ae ?_ ?_|refine af ?_)|(refine⟨[[.int .i64 1,.int .i64 0,.int .i64 0,.int .i64 0,.nil,.nil,.int .i64 1,.int .i64 0,.int .i64 0,.int .i64 0,.int .i64 0,.int .i64 2,.str [53],.nil,.nil,.nil,.nil,.nil,.str [],.str [],.int .i64 0,.int .i64 0,.str [],.int .i64 0,.int .i64 0,.int .i64 0,.str [],.nil]],rfl,(by simp),rfl,?_⟩)|(exfalso;omega)))
 all_goals first|exact RQ T|(exfalso;revert h;decide)|(exfalso;simp at h;done)|(exfalso;omega)
end
theorem oP {u:U} {l:List Dd} (J:u.fit) (N:∀d∈l,d.it.fit) (h:fineU u l=true):Good u/\u.kind=0/\l.length<=8/\(∀d∈l,d.it.Shorts)/\∀d∈l,1<=d.act:=by
 unfold fineU at h
 simp only[Bool.and_eq_true]at h
 obtain⟨T,D,E,M⟩:=h
 have O:=nW D
 have F:u.kind=0:=by unfold ig at D;simp only[Bool.and_eq_true,decide_eq_true_eq]at D;exact D.1
 unfold lK at E
 simp only[Bool.and_eq_true,decide_eq_true_eq,all_eq_true]at E
 exact⟨O,F,E.1,λd I=>ov d.it (N d I) (E.2 d I),lR (by rw[U.ids_eq];simp) M⟩
section
variable (G:Glob) (hG:GOk G) (hG2:GOk2 G)
include hG hG2
end
section
variable (G:Glob) (hG:GOk G) (hG2:GOk2 G)
include hG hG2
set_option maxHeartbeats 8000000 in
theorem f4 (u:U) (V:u.fit) (p:Pt) (D:p.unit.fit) (hl:p.label.length<1000000000000000000) (hw:p.words.length<1000000000000000000/\∀x∈p.words,x.text.length<1000000000000000000):Pure G Tryz.prog 4 [.agg u.cs,.agg p.cs] (.bool true):=by
 have J:=f10 G hG hG2
 have I:=f13 G u V [] (by simp) (by simp)
 have M:=f9 G p.unit 30 D (by omega) (by omega)
 simp only[map_nil]at I
 rw[U.cs_eq p.unit]at M
 cases h1:fineU u []with
 |false=>
  rw[h1]at I
  refine Pure.w c4 λR T=>?_
  unfold s4 r4
  unfold Pt.cs
  (repeat' (first|(with_reducible refine aa J ?_)|simp only[EVz,seval,↓reduceIte,EV6,EV7]|(refine aE I ⟨AVle.rfl' _,.inl (.inr rfl),trivial⟩ ?_)))
  all_goals exact RQ T
 |true=>
 rw[h1]at I
 obtain⟨hg,an,_,_,_⟩:=oP V (by simp) h1
 cases h2:p.unit.few 30 with
 |false=>
  rw[h2]at M
  refine Pure.w c4 λR T=>?_
  unfold s4 r4
  unfold Pt.cs
  (repeat' (first|(with_reducible first|refine aa J ?_|refine aa M ?_)|simp only[EVz,seval,↓reduceIte,EV6,EV7]|(refine aE I ⟨AVle.rfl' _,.inl (.inr rfl),trivial⟩ ?_)))
  all_goals exact RQ T
 |true=>
 rw[h2]at M
 have hS:=kY D (by omega) (by omega) h2
 have hc:p.unit.flat.length<=1000000:=by have:=hS.1.2;omega
 by_cases h3:p.words.length<=60/\p.label.length<=60
 ·have X:=f14 G hG u hg an p hS hc (by omega)
  have O:=f15 G u hg p hS hc (by omega) hl
  have ad:=rev_fit hg D hl hw
  rw[rev_X hg]at O ad
  have ac:=f16 G (revP u p).1 ad (revP u p).1
  rw[decide_eq_true rfl]at ac
  unfold aO at X O
  have ah:=U.cs_len (revP u p).1
  have al:(revP u p).1.cs.take 8=(revP u p).1.cs:=take_of_length_le (by omega)
  generalize (revP u p).1.cs=vs at*
  generalize (revP u p).2=e at*
  unfold Pt.cs at X O ⊢
  refine Pure.w c4 λR T=>?_
  unfold s4 r4
  have e1:decide (e=e)=true:=decide_eq_true rfl
  (repeat' (first|(with_reducible (first|refine ab (λh=>?_) (λh=>?_)|refine ai (λh=>?_) (λh=>?_))<;>(try simp only[DZ]at h))|(with_reducible first|refine aa J ?_|refine aa M ?_)|simp only[EVz,seval,↓reduceIte,EV6,EV7]|(refine aE I ⟨AVle.rfl' _,.inl (.inr rfl),trivial⟩ ?_)|(exfalso;omega)))
  all_goals skip
  refine ay p.words (λn r (c:Unit)=>True) (λn c=>[(2,.ref u.cs),(3,.ref (Pt.cs p)),(34,.lst 4 (p.words.map Wd.cs)),(35,.int .i64 p.words.length),(36,.int .i64 n)]) (λ_ _=>[]) () trivial (Weak.rfl' _ _) (by omega) (λn w r c aw D Y=>?_) (λc aw hn=>?_)
  ·unfold Pt.cs
   by_cases hq:(60:Int)<(w.text.length:Int)
   ·(repeat' (first|(with_reducible refine aa J ?_)|simp only[EVz,seval,↓reduceIte,EV6,EV7,D.yes,D.le0,D.lt',D.row,Y,D.get,hq,N]|simp only[EVz,seval,↓reduceIte,EV6,EV7,D.yes,D.le0,D.lt',D.row,Y,D.get,hq]|(with_reducible intro Z F;(try(have E:=F;simp only[EVK]at E;(have N:=E))))))
    all_goals exact RQ T
   ·(repeat' (first|simp only[EVz,seval,↓reduceIte,EV6,EV7,D.yes,D.le0,D.lt',D.row,Y,D.get,hq]|(with_reducible intro Z F;(try(have E:=F;simp only[EVK]at E;(have N:=E))))))
    all_goals exact ap D () trivial (Weak.sub (by exact(SubN.refl _).tail _))
  ·unfold Pt.cs
   (repeat' (first|(with_reducible first|refine aa J ?_|refine aa X ?_|refine aa O ?_|refine aa ac ?_)|simp only[EVz,seval,↓reduceIte,EV6,EV7,hn,ah,al,e1,N]|simp only[EVz,seval,↓reduceIte,EV6,EV7,hn,ah,al,e1]|(with_reducible intro Z F;(try(have E:=F;simp only[EVK]at E;first|(have N:=AI E N)|(have N:=E))))))
   all_goals exact RQ T
 ·refine Pure.w c4 λR T=>?_
  unfold s4 r4
  unfold Pt.cs
  (repeat' (first|(with_reducible (first|refine ab (λh=>?_) (λh=>?_)|refine ai (λh=>?_) (λh=>?_))<;>(try simp only[DZ]at h))|(with_reducible first|refine aa J ?_|refine aa M ?_)|simp only[EVz,seval,↓reduceIte,EV6,EV7]|(refine aE I ⟨AVle.rfl' _,.inl (.inr rfl),trivial⟩ ?_)|(exfalso;omega)))
  all_goals exact RQ T
end
end Go.Av
