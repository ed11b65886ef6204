/-
  UNDO, the reference 7: moves, labels, words; patches taken back.
-/
import Derived.Test.YtnoakpkjccigoaaGreatDoorRXR4toXR6
import Derived.Test.YtnoakpkjccigoaaGreatDoorRXU8toXAv31
namespace Go.Av
open Go Go.RowKit Go.Proofs List
set_option linter.unusedSimpArgs false
set_option linter.unusedVariables false
theorem qk {i o:Idd} {b:List U}:∀(a:List U) (n:Int),i∉U.idss a->pM i o (a++b) n=pM i o b (n+a.length)
 |[],n,_=>by simp
 |k::a,n,h=>by
  rw[U.idss_cons,mem_append,not_or]at h
  have D:k.id≠i:=λe=>h.1 (e ▸ cR k)
  rw[cons_append,pM,if_neg D,if_neg h.1,qk a (n+1) h.2,length_cons]
  congr 1
  omega
theorem parX_at {i:Idd} (u:U) (E:u.ids.Nodup) (hi:i∈u.ids):u.id≠i->∃n y p r,parX i u=(p.id,n,true)/\(U.way i u).reverse=y::p::r:=by
 refine U.wayInd (i:=i) (p:=λu=>u.id≠i->∃n y p r,parX i u=(p.id,n,true)/\(U.way i u).reverse=y::p::r) ?_ ?_ u E hi
 ·intro u _ h F;exact absurd h F
 ·intro u a k b E h s ih _
  rw[qx,if_neg h,s.eq,qk a 0 s.left,pM,s.way h]
  by_cases D:k.id=i
  ·rw[if_pos D,aN D]
   exact⟨_,k,u,[],rfl,rfl⟩
  ·rw[if_neg D,if_pos s.mem]
   obtain⟨n,y,p,r,I,J⟩:=ih D
   exact⟨n,y,p,r++[u],I,by rw[reverse_cons,J];rfl⟩
theorem parX_no {i:Idd} {u:U} (h:u.id=i):parX i u=(zId,-1,false):=by rw[qx,if_pos h]
theorem parX_par {i:Idd} {u:U} (F:u.ids.Nodup) (hi:i∈u.ids) (D:u.id≠i):∃n,parX i u=((parR i u).1.id,n,true):=by
 obtain⟨n,y,p,r,J,M⟩:=parX_at u F hi D
 obtain⟨N,d,j,E,I,_⟩:=bt F hi D
 unfold aF at E
 rw[M]at E
 simp only[Option.some.injEq,Prod.mk.injEq]at E
 rw[I]
 exact⟨n,by rw[J,E.1]⟩
section
variable (G:Glob)
set_option maxHeartbeats 4000000 in
theorem f40 (u:U) (hg:Good u) (i:Idd) (s:List UInt8) (hl:s.length<1000000000000000000):Pure G Tryz.prog 40 [.agg u.cs,.agg i.cs,.str s] (aO (relX u i s)):=by
 have hu:=hg.short
 have hS:=s54X G u hu
 have Z:=f78 G s hl
 have N:=f69 G i u hu.1
 have hP:=f79 G i u hu.1
 unfold trp at hP
 have hW:=f80 G {fnd i u with label:=s} u hu.1
 rw[U.cs_eq {fnd i u with label:=s}]at hW
 have hT:=λj=>f75 G (fnd j u).kids (fnd i u).kind s i false (by have:=(fb hu j).1.kids;exact this)
 simp only[qw]at hT
 have T:=f69 G (parR i u).1.id u hu.1
 have M:=hT (parR i u).1.id
 rw[U.cs_eq (fnd i u)]at N
 rw[U.cs_eq (fnd (parR i u).1.id u)]at T
 simp only[Idd.cs]at N hP T M
 unfold aO
 have V:=U.cs_len (pz {fnd i u with label:=s} u)
 have X:(pz {fnd i u with label:=s} u).cs.take 8=(pz {fnd i u with label:=s} u).cs:=take_of_length_le (by omega)
 refine Pure.wL c40 λR I=>?_
 unfold s40 r40
 unfold relX at I
 by_cases h1:stP u=false\/br s=false
 ·rw[if_pos h1]at I
  (repeat' (first|(with_reducible (first|refine ab (λh=>?_) (λh=>?_)|refine ai (λh=>?_) (λh=>?_))<;>(try simp only[DZ]at h))|(with_reducible first|refine aa hS ?_|refine aa Z ?_)|simp only[EVz,seval,↓reduceIte,EV6,EV7,E]|simp only[EVz,seval,↓reduceIte,EV6,EV7]|(with_reducible intro J F;(try(have D:=F;simp only[EVK]at D;(have E:=D))))))
  all_goals first|exact I _ _ (LeRep.tup (.cons po (.cons (LeRep.refl _) .nil)))|(exfalso;simp_all;done)
 rw[if_neg h1]at I
 have ad:stP u=true:=by simpa using λh=>h1 (.inl h)
 have ah:br s=true:=by simpa using λh=>h1 (.inr h)
 rw[ad]at hS
 rw[ah]at Z
 by_cases h2:i∈u.ids
 ·rw[if_neg (by simpa using h2)]at I
  have ac:hasP i u=true:=decide_eq_true h2
  rw[ac]at N
  by_cases h3:(fnd i u).kind=0
  ·rw[if_pos h3]at I
   (repeat' (first|(with_reducible first|refine aa hS ?_|refine aa Z ?_|refine aa N ?_)|simp only[EVz,seval,↓reduceIte,EV6,EV7,h3,E]|simp only[EVz,seval,↓reduceIte,EV6,EV7,h3]|(with_reducible intro J F;(try(have D:=F;simp only[EVK]at D;first|(have E:=AI D E)|(have E:=D))))))
   all_goals exact I _ _ (LeRep.tup (.cons po (.cons (LeRep.refl _) .nil)))
  rw[if_neg h3]at I
  have Y:decide ((fnd i u).kind=0)=false:=decide_eq_false h3
  by_cases h4:(fnd i u).label=s
  ·rw[if_pos h4]at I
   have O:decide ((fnd i u).label=s)=true:=decide_eq_true h4
   (repeat' (first|(with_reducible first|refine aa hS ?_|refine aa Z ?_|refine aa N ?_)|simp only[EVz,seval,↓reduceIte,EV6,EV7,Y,O,E]|simp only[EVz,seval,↓reduceIte,EV6,EV7,Y,O]|(with_reducible intro J F;(try(have D:=F;simp only[EVK]at D;first|(have E:=AI D E)|(have E:=D))))))
   all_goals exact I _ _ (LeRep.tup (.cons po (.cons (LeRep.refl _) .nil)))
  rw[if_neg h4]at I
  have O:decide ((fnd i u).label=s)=false:=decide_eq_false h4
  by_cases h5:u.id=i
  ·rw[if_neg (by simp[h5])]at I
   rw[parX_no h5]at hP
   (repeat' (first|(with_reducible first|refine aa hS ?_|refine aa Z ?_|refine aa N ?_|refine aa hP ?_|refine aa hW ?_)|simp only[EVz,seval,↓reduceIte,EV6,EV7,Y,O,V,X,E]|simp only[EVz,seval,↓reduceIte,EV6,EV7,Y,O,V,X]|(with_reducible intro J F;(try(have D:=F;simp only[EVK]at D;first|(have E:=AI D E)|(have E:=D))))))
   all_goals exact I _ _ (LeRep.refl _)
  obtain⟨n,hn⟩:=parX_par hg.nd h2 h5
  rw[hn]at hP
  by_cases h6:pP (fnd (parR i u).1.id u).kids (fnd i u).kind s i=true
  ·rw[if_pos ⟨h5,h6⟩]at I
   rw[h6]at M
   (repeat' (first|(with_reducible first|refine aa hS ?_|refine aa Z ?_|refine aa N ?_|refine aa hP ?_|refine aa T ?_|refine aa M ?_)|simp only[EVz,seval,↓reduceIte,EV6,EV7,Y,O,E]|simp only[EVz,seval,↓reduceIte,EV6,EV7,Y,O]|(with_reducible intro J F;(try(have D:=F;simp only[EVK]at D;first|(have E:=AI D E)|(have E:=D))))))
   all_goals exact I _ _ (LeRep.tup (.cons po (.cons (LeRep.refl _) .nil)))
  ·rw[if_neg (λh=>h6 h.2)]at I
   rw[Bool.not_eq_true]at h6
   rw[h6]at M
   (repeat' (first|(with_reducible first|refine aa hS ?_|refine aa Z ?_|refine aa N ?_|refine aa hP ?_|refine aa T ?_|refine aa M ?_|refine aa hW ?_)|simp only[EVz,seval,↓reduceIte,EV6,EV7,Y,O,V,X,E]|simp only[EVz,seval,↓reduceIte,EV6,EV7,Y,O,V,X]|(with_reducible intro J F;(try(have D:=F;simp only[EVK]at D;first|(have E:=AI D E)|(have E:=D))))))
   all_goals exact I _ _ (LeRep.refl _)
 ·rw[if_pos h2]at I
  have ac:hasP i u=false:=decide_eq_false h2
  rw[ac]at N
  (repeat' (first|(with_reducible first|refine aa hS ?_|refine aa Z ?_|refine aa N ?_)|simp only[EVz,seval,↓reduceIte,EV6,EV7,E]|simp only[EVz,seval,↓reduceIte,EV6,EV7]|(with_reducible intro J F;(try(have D:=F;simp only[EVK]at D;first|(have E:=AI D E)|(have E:=D))))))
  all_goals exact I _ _ (LeRep.tup (.cons po (.cons (LeRep.refl _) .nil)))
end
theorem qu {b:Nat}:∀{τ:Store},b∉Store.keys τ->Store.erase τ (some b)=τ
 |[],_=>rfl
 |(k,o)::τ,h=>by
  simp only[Store.keys,map_cons,mem_cons,not_or]at h
  rw[jV,if_neg (λe=>h.1 e.symm),qu (by simpa[Store.keys]using h.2)]
theorem qJ {e:TypeId} {sz bytes m':Nat} {τ:Store} {ys:List (List AV)} {K:AV->Store->Prop} {b:Nat} (F:b∉Store.keys τ) (J:ys.length*bytes<=140737488355328) (E:m'=ys.length*sz)
  (I:∀D,(∀d,D=some d->d∉Store.keys τ)->K (.own D e sz ys) (τ++tokS D e m')):appX e sz bytes ((b,.tok e 0)::τ) (some b) [] ys K:=by
 subst E
 refine fM τ (by rintro d h;injection h with h;subst h;simp[Store.get]) (by simpa using J) ?_ (λD h=>by simpa using I D h)
 rw[jV,if_pos rfl,qu F]
 exact SubN.refl _
section
variable (G:Glob)
set_option maxHeartbeats 8000000 in
theorem f41 (u:U) (hu:u.Short) (i:Idd) (l:List Wd) (hl:l.length<1000000) (hd:Bool):Pure G Tryz.prog 41 [.agg u.cs,.agg i.cs,.lst 4 (l.map Wd.cs),.bool hd] (aO (wrX u i l hd)):=by
 have hS:=s54X G u hu
 have V:=f69 G i u hu.1
 have O:List.take l.length (l.map Wd.cs)=l.map Wd.cs:=take_of_length_le (by simp)
 have al:=f80 G {fnd i u with head:=l} u hu.1
 have an:=f80 G {fnd i u with words:=l} u hu.1
 rw[U.cs_eq {fnd i u with head:=l}]at al
 rw[U.cs_eq {fnd i u with words:=l}]at an
 rw[U.cs_eq (fnd i u)]at V
 simp only[Idd.cs]at V
 unfold aO
 have Y:=U.cs_len (pz {fnd i u with head:=l} u)
 have ac:(pz {fnd i u with head:=l} u).cs.take 8=(pz {fnd i u with head:=l} u).cs:=take_of_length_le (by omega)
 have Z:=U.cs_len (pz {fnd i u with words:=l} u)
 have ad:(pz {fnd i u with words:=l} u).cs.take 8=(pz {fnd i u with words:=l} u).cs:=take_of_length_le (by omega)
 refine Pure.wL c41 λR M=>?_
 unfold s41 r41
 unfold wrX at M
 cases h1:stP u with
 |false=>
  rw[h1]at hS
  simp only[h1,if_true,ite_true]at M
  (repeat' (first|(with_reducible (first|refine ab (λh=>?_) (λh=>?_)|refine ai (λh=>?_) (λh=>?_)|refine aj (λh=>?_) (λh=>?_))<;>(try simp only[DZ]at h))|(with_reducible first|refine AI (by omega) ?_|refine aa hS ?_)|simp only[EVz,seval,↓reduceIte,EV6,EV7,D]|simp only[EVz,seval,↓reduceIte,EV6,EV7]|(with_reducible intro I F;(try(have E:=F;simp only[EVK]at E;first|(have D:=AI E D)|(have D:=E))))|(with_reducible first|refine ae ?_ ?_|refine af ?_)|(exfalso;omega)))
  all_goals exact M _ _ (LeRep.tup (.cons po (.cons (LeRep.refl _) .nil)))
 |true=>
 rw[h1]at hS
 simp only[h1,Bool.true_eq_false,if_false,ite_false]at M
 (repeat' (first|(with_reducible (first|refine ab (λh=>?_) (λh=>?_)|refine ai (λh=>?_) (λh=>?_)|refine aj (λh=>?_) (λh=>?_))<;>(try simp only[DZ]at h))|(with_reducible first|refine AI (by omega) ?_|refine aa hS ?_)|simp only[EVz,seval,↓reduceIte,EV6,EV7,D]|simp only[EVz,seval,↓reduceIte,EV6,EV7]|(with_reducible intro I F;(try(have E:=F;simp only[EVK]at E;first|(have D:=AI E D)|(have D:=E))))|(with_reducible first|refine ae ?_ ?_|refine af ?_)|(exfalso;omega)))
 refine ay l (λn r (c:Unit)=>(l.any λw=>!bf w.text)=r.any λw=>!bf w.text) (λn c=>[(2,.lst 4 (l.map Wd.cs)),(3,.bool hd),(4,.ref u.cs),(5,.ref i.cs),(8,.sc (.pointer (some ⟨I,0,none⟩))),(10,.int .i64 n)]) (λ_ _=>[(I,.cells 27 zU)]) () rfl (Weak.rfl' _ _) (by omega) (λn w r c N J hw=>?_) (λc N T=>?_)
 ·have X:=f81 G w.text
  rw[any_cons]at N
  cases hp:bf w.text with
  |false=>
   rw[hp]at X N
   rw[if_pos (by rw[N];rfl)]at M
   (repeat' (first|(with_reducible (first|refine ab (λh=>?_) (λh=>?_)|refine ai (λh=>?_) (λh=>?_)|refine aj (λh=>?_) (λh=>?_))<;>(try simp only[DZ]at h))|(with_reducible first|refine AI (by omega) ?_|refine aa X ?_)|simp only[EVz,seval,↓reduceIte,EV6,EV7,J.yes,J.le0,J.lt',J.row,hw,J.get,D]|simp only[EVz,seval,↓reduceIte,EV6,EV7,J.yes,J.le0,J.lt',J.row,hw,J.get]|(with_reducible intro I F;(try(have E:=F;simp only[EVK]at E;first|(have D:=AI E D)|(have D:=E))))|(with_reducible first|refine ae ?_ ?_|refine af ?_)|(exfalso;omega)))
   all_goals exact M _ _ (LeRep.tup (.cons po (.cons (LeRep.refl _) .nil)))
  |true=>
   rw[hp]at X N
   (repeat' (first|(with_reducible (first|refine ab (λh=>?_) (λh=>?_)|refine ai (λh=>?_) (λh=>?_)|refine aj (λh=>?_) (λh=>?_))<;>(try simp only[DZ]at h))|(with_reducible first|refine AI (by omega) ?_|refine aa X ?_)|simp only[EVz,seval,↓reduceIte,EV6,EV7,J.yes,J.le0,J.lt',J.row,hw,J.get,D]|simp only[EVz,seval,↓reduceIte,EV6,EV7,J.yes,J.le0,J.lt',J.row,hw,J.get]|(with_reducible intro I F;(try(have E:=F;simp only[EVK]at E;first|(have D:=AI E D)|(have D:=E))))|(with_reducible first|refine ae ?_ ?_|refine af ?_)|(exfalso;omega)))
   all_goals exact ap J () (by rw[N];rfl) (Weak.rfl' _ _)
 ·rw[if_neg (by rw[N];simp)]at M
  cases h2:hasP i u with
  |false=>
   rw[h2]at V
   have ah:i∉u.ids:=by simpa[hasP]using h2
   rw[if_pos ah]at M
   (repeat' (first|(with_reducible (first|refine ab (λh=>?_) (λh=>?_)|refine ai (λh=>?_) (λh=>?_)|refine aj (λh=>?_) (λh=>?_))<;>(try simp only[DZ]at h))|(with_reducible first|refine AI (by omega) ?_|refine aa V ?_)|simp only[EVz,seval,↓reduceIte,EV6,EV7,T,D]|simp only[EVz,seval,↓reduceIte,EV6,EV7,T]|(with_reducible intro I F;(try(have E:=F;simp only[EVK]at E;first|(have D:=AI E D)|(have D:=E))))|(with_reducible first|refine ae ?_ ?_|refine af ?_)|(exfalso;omega)))
   all_goals exact M _ _ (LeRep.tup (.cons po (.cons (LeRep.refl _) .nil)))
  |true=>
  rw[h2]at V
  have ah:i∈u.ids:=by simpa[hasP]using h2
  rw[if_neg (by simpa using ah)]at M
  by_cases h3:(fnd i u).kind=0
  ·rw[if_pos h3]at M
   (repeat' (first|(with_reducible (first|refine ab (λh=>?_) (λh=>?_)|refine ai (λh=>?_) (λh=>?_)|refine aj (λh=>?_) (λh=>?_))<;>(try simp only[DZ]at h))|(with_reducible first|refine AI (by omega) ?_|refine aa V ?_)|simp only[EVz,seval,↓reduceIte,EV6,EV7,T,h3,D]|simp only[EVz,seval,↓reduceIte,EV6,EV7,T,h3]|(with_reducible intro I F;(try(have E:=F;simp only[EVK]at E;first|(have D:=AI E D)|(have D:=E))))|(with_reducible first|refine ae ?_ ?_|refine af ?_)|(exfalso;omega)))
   all_goals exact M _ _ (LeRep.tup (.cons po (.cons (LeRep.refl _) .nil)))
  rw[if_neg h3]at M
  have e3:decide ((fnd i u).kind=0)=false:=decide_eq_false h3
  by_cases h4:256<l.length
  ·rw[if_pos h4]at M
   have e4:decide ((256:Int)<(l.length:Int))=true:=decide_eq_true (by omega)
   (repeat' (first|(with_reducible (first|refine ab (λh=>?_) (λh=>?_)|refine ai (λh=>?_) (λh=>?_)|refine aj (λh=>?_) (λh=>?_))<;>(try simp only[DZ]at h))|(with_reducible first|refine AI (by omega) ?_|refine aa V ?_)|simp only[EVz,seval,↓reduceIte,EV6,EV7,T,e3,e4,D]|simp only[EVz,seval,↓reduceIte,EV6,EV7,T,e3,e4]|(with_reducible intro I F;(try(have E:=F;simp only[EVK]at E;first|(have D:=AI E D)|(have D:=E))))|(with_reducible first|refine ae ?_ ?_|refine af ?_)|(exfalso;omega)))
   all_goals exact M _ _ (LeRep.tup (.cons po (.cons (LeRep.refl _) .nil)))
  rw[if_neg h4]at M
  have e4:decide ((256:Int)<(l.length:Int))=false:=decide_eq_false (by omega)
  cases hd with
  |true=>
   simp only[if_true,ite_true]at M
   (repeat' (first|(with_reducible (first|refine ab (λh=>?_) (λh=>?_)|refine ai (λh=>?_) (λh=>?_)|refine aj (λh=>?_) (λh=>?_))<;>(try simp only[DZ]at h))|(with_reducible first|refine AI (by omega) ?_|refine aa V ?_)|simp only[EVz,seval,↓reduceIte,EV6,EV7,T,e3,e4,Y,ac,O,D]|simp only[EVz,seval,↓reduceIte,EV6,EV7,T,e3,e4,Y,ac,O]|(with_reducible intro I F;(try(have E:=F;simp only[EVK]at E;first|(have D:=AI E D)|(have D:=E))))|(with_reducible first|refine ae ?_ ?_|refine af ?_)|(refine⟨[],rfl,(by simp),rfl,?_⟩)|(refine qJ (m':=l.length*4) (by assumption) (by simp;omega) (by simp) (λgn aw=>?_);simp only[nil_append,cons_append])|(refine aE al ⟨AVle.rfl' _,.inr (by simp[bc,aR,O]),trivial⟩ ?_)|(exfalso;omega)))
   all_goals first|exact M _ _ (LeRep.refl _)|trace_state
  |false=>
   simp only[Bool.false_eq_true,if_false,ite_false]at M
   (repeat' (first|(with_reducible (first|refine ab (λh=>?_) (λh=>?_)|refine ai (λh=>?_) (λh=>?_)|refine aj (λh=>?_) (λh=>?_))<;>(try simp only[DZ]at h))|(with_reducible first|refine AI (by omega) ?_|refine aa V ?_)|simp only[EVz,seval,↓reduceIte,EV6,EV7,T,e3,e4,Z,ad,O,D]|simp only[EVz,seval,↓reduceIte,EV6,EV7,T,e3,e4,Z,ad,O]|(with_reducible intro I F;(try(have E:=F;simp only[EVK]at E;first|(have D:=AI E D)|(have D:=E))))|(with_reducible first|refine ae ?_ ?_|refine af ?_)|(refine⟨[],rfl,(by simp),rfl,?_⟩)|(refine qJ (m':=l.length*4) (by assumption) (by simp;omega) (by simp) (λgn aw=>?_);simp only[nil_append,cons_append])|(refine aE an ⟨AVle.rfl' _,.inr (by simp[bc,aR,O]),trivial⟩ ?_)|(exfalso;omega)))
   all_goals first|exact M _ _ (LeRep.refl _)|trace_state
set_option maxHeartbeats 8000000 in
theorem f39 (u:U) (hg:Good u) (i q:Idd) (k:Int):Pure G Tryz.prog 39 [.agg u.cs,.agg i.cs,.agg q.cs,.int .i64 k] (aO (movX u i q k)):=by
 have hu:=hg.short
 have hS:=s54X G u hu
 have Y:=f69 G i u hu.1
 have hI:=f73 G q u hu.1
 have al:=fb hu i
 have J:=f73 G q (fnd i u) al.1
 have ah:=f70 G i u hu.1
 simp only[Idd.cs]at Y hI J ah
 rw[U.cs_eq (fnd i u)]at Y J
 unfold aO
 refine Pure.wL c39 λR F=>?_
 unfold s39 r39
 unfold movX at F
 cases h1:stP u with
 |false=>
  rw[h1]at hS
  simp only[h1,if_true,ite_true]at F
  (repeat' (first|(with_reducible (first|refine ab (λh=>?_) (λh=>?_)|refine ai (λh=>?_) (λh=>?_)|refine aj (λh=>?_) (λh=>?_))<;>(try simp only[DZ]at h))|(with_reducible first|refine AI (by omega) ?_|refine aa hS ?_)|simp only[EVz,seval,↓reduceIte,EV6,EV7,D]|simp only[EVz,seval,↓reduceIte,EV6,EV7]|(with_reducible intro ac I;(try(have E:=I;simp only[EVK]at E;first|(have D:=AI E D)|(have D:=E))))|(with_reducible first|refine ae ?_ ?_|refine af ?_)|(exfalso;omega)))
  all_goals exact F _ _ (LeRep.tup (.cons po (.cons (LeRep.refl _) .nil)))
 |true=>
 rw[h1]at hS
 simp only[h1,Bool.true_eq_false,if_false,ite_false]at F
 by_cases h2:i∉u.ids\/q∉u.ids
 ·rw[if_pos h2]at F
  unfold hasP at Y hI
  (repeat' (first|(with_reducible (first|refine ab (λh=>?_) (λh=>?_)|refine ai (λh=>?_) (λh=>?_)|refine aj (λh=>?_) (λh=>?_))<;>(try simp only[DZ]at h))|(with_reducible first|refine AI (by omega) ?_|refine aa hS ?_|refine aa Y ?_|refine aa hI ?_)|simp only[EVz,seval,↓reduceIte,EV6,EV7,D]|simp only[EVz,seval,↓reduceIte,EV6,EV7]|(with_reducible intro ac I;(try(have E:=I;simp only[EVK]at E;first|(have D:=AI E D)|(have D:=E))))|(with_reducible first|refine ae ?_ ?_|refine af ?_)|(exfalso;omega)))
  all_goals first|exact F _ _ (LeRep.tup (.cons po (.cons (LeRep.refl _) .nil)))|(exfalso;simp_all;done)
 rw[if_neg h2]at F
 rw[not_or,Classical.not_not,Classical.not_not]at h2
 obtain⟨hi,hq⟩:=h2
 rw[show hasP i u=true from decide_eq_true hi]at Y
 rw[show hasP q u=true from decide_eq_true hq]at hI
 by_cases X:u.id=i\/q∈(fnd i u).ids
 ·rw[if_pos X]at F
  unfold hasP at J
  (repeat' (first|(with_reducible (first|refine ab (λh=>?_) (λh=>?_)|refine ai (λh=>?_) (λh=>?_)|refine aj (λh=>?_) (λh=>?_))<;>(try simp only[DZ]at h))|(with_reducible first|refine AI (by omega) ?_|refine aa hS ?_|refine aa Y ?_|refine aa hI ?_|refine aa J ?_)|simp only[EVz,seval,↓reduceIte,EV6,EV7,gv,D]|simp only[EVz,seval,↓reduceIte,EV6,EV7,gv]|(with_reducible intro ac I;(try(have E:=I;simp only[EVK]at E;first|(have D:=AI E D)|(have D:=E))))|(with_reducible first|refine ae ?_ ?_|refine af ?_)|(exfalso;omega)))
  all_goals first|exact F _ _ (LeRep.tup (.cons po (.cons (LeRep.refl _) .nil)))|(exfalso;simp_all;done)
 rw[if_neg X]at F
 rw[not_or]at X
 have e3:decide (u.id=i)=false:=decide_eq_false X.1
 rw[show hasP q (fnd i u)=false from decide_eq_false X.2]at J
 have Z:=pG u hg.nd hi X.1
 obtain⟨g1,g2,g3,A,B,hA,q1,q2⟩:=cN hg hi X.1
 have bh:q∈(U.cut i u).ids:=by
  rw[Z,q2]
  have:=hq
  rw[q1]at this
  rcases mem_append.1 this with hm|hm
  ·exact mem_append.2 (.inl hm)
  ·rcases mem_append.1 hm with hm|hm
   ·exact absurd hm X.2
   ·exact mem_append.2 (.inr hm)
 rw[←Z]at g1
 have V:=g1.short
 have be:=p8 bh
 have bd:=U.cs_eq (fnd q (U.cut i u))
 have O:=f69 G q (U.cut i u) V.1
 have hN:=f74 G (fnd q (U.cut i u)).kind (fnd i u).kind
 have hT:=f75 G (fnd q (U.cut i u)).kids (fnd i u).kind (fnd i u).label (fnd i u).id true (by have:=(fb V q).1.kids;exact this)
 rw[pX]at hT
 have hD:=f76 G q (U.cut i u) V.1
 have ad:=f77 G (fnd i u) al.1
 have h9:(anc q (U.cut i u)).length<=(U.cut i u).flat.length:=by
  unfold anc
  rw[length_reverse,length_map,length_dropLast]
  have:=eF q (U.cut i u)
  omega
 have h8:=g1.cnt
 have h7:=(fnd i u).dep_cnt
 have h5:=(fnd i u).dep_ge
 have h6:(fnd i u).flat.length<=1000000:=by have:=al.1.2;omega
 unfold U.cnt at h7
 have w1:IntKind.i64.wrap (((anc q (U.cut i u)).length:Int)+1)=((anc q (U.cut i u)).length:Int)+1:=aA (by omega) (by omega)
 have w2:IntKind.i64.wrap (((anc q (U.cut i u)).length:Int)+1+(fnd i u).dep)=((anc q (U.cut i u)).length:Int)+1+(fnd i u).dep:=aA (by omega) (by omega)
 simp only[Idd.cs]at O hT hD
 rw[bd]at O
 have T:=λh0 h1=>qH G g1.nd V.1 q k (fnd i u) h0 h1
 simp only[Idd.cs]at T
 have an:=U.cs_len (U.eve q (λy=>{y with kids:=l8 y.kids k.toNat (fnd i u)}) (U.cut i u))
 have aw:(U.eve q (λy=>{y with kids:=l8 y.kids k.toNat (fnd i u)}) (U.cut i u)).cs.take 8=(U.eve q (λy=>{y with kids:=l8 y.kids k.toNat (fnd i u)}) (U.cut i u)).cs:=take_of_length_le (by omega)
 have ba:=U.cs_len (U.cut i u)
 have bb:(U.cut i u).cs.take 8=(U.cut i u).cs:=take_of_length_le (by omega)
 rw[be]at F
 rw[U.cs_eq (fnd i u)]at ad T
 generalize U.cut i u=rest at*
 generalize (U.eve q (λy=>{y with kids:=l8 y.kids k.toNat (fnd i u)}) rest)=fin at*
 generalize N:(if pl (fnd q rest).kind (fnd i u).kind=false then (noU,(9:Int))else if k<0\/((fnd q rest).kids.length:Int)<k then (noU,3)else if pn (fnd q rest).kids (fnd i u).kind (fnd i u).label=true then (noU,10)else if 64<=(fnd q rest).kids.length\/8<((anc q rest).length:Int)+1+(fnd i u).dep then (noU,6)else (fin,0))=M at F
 (repeat' (first|(with_reducible (first|refine ab (λh=>?_) (λh=>?_)|refine ai (λh=>?_) (λh=>?_)|refine aj (λh=>?_) (λh=>?_))<;>(try simp only[DZ]at h))|(with_reducible first|refine AI (by omega) ?_|refine aa hS ?_|refine aa Y ?_|refine aa hI ?_|refine aa J ?_|refine aa ah ?_|refine aa O ?_|refine aa hN ?_|refine aa hT ?_|refine aa hD ?_|refine aa ad ?_|refine aa (T (by omega) (by omega)) ?_)|simp only[EVz,seval,↓reduceIte,EV6,EV7,gv,e3,w1,w2,an,aw,ba,bb,D]|simp only[EVz,seval,↓reduceIte,EV6,EV7,gv,e3,w1,w2,an,aw,ba,bb]|(with_reducible intro ac I;(try(have E:=I;simp only[EVK]at E;first|(have D:=AI E D)|(have D:=E))))|(with_reducible first|refine ae ?_ ?_|refine af ?_)|(exfalso;omega)))
 all_goals
  clear hS Y hI J ah O hN hT hD ad T bd an aw ba bb w1 w2
  first
   |(have e:M=(fin,0):=by rw[←N];clear F N;repeat' (first|rfl|(exfalso;omega)|(exfalso;simp_all;done)|split)
     rw[e]at F;exact F _ _ (LeRep.refl _))
   |(have e:M=(noU,9):=by rw[←N];clear F N;repeat' (first|rfl|(exfalso;omega)|(exfalso;simp_all;done)|split)
     rw[e]at F;exact F _ _ (LeRep.tup (.cons po (.cons (LeRep.refl _) .nil))))
   |(have e:M=(noU,3):=by rw[←N];clear F N;repeat' (first|rfl|(exfalso;omega)|(exfalso;simp_all;done)|split)
     rw[e]at F;exact F _ _ (LeRep.tup (.cons po (.cons (LeRep.refl _) .nil))))
   |(have e:M=(noU,10):=by rw[←N];clear F N;repeat' (first|rfl|(exfalso;omega)|(exfalso;simp_all;done)|split)
     rw[e]at F;exact F _ _ (LeRep.tup (.cons po (.cons (LeRep.refl _) .nil))))
   |(have e:M=(noU,6):=by rw[←N];clear F N;repeat' (first|rfl|(exfalso;omega)|(exfalso;simp_all;done)|split)
     rw[e]at F;exact F _ _ (LeRep.tup (.cons po (.cons (LeRep.refl _) .nil))))
   |trace_state
end
section
variable (G:Glob)
set_option maxHeartbeats 8000000 in
theorem f15 (u:U) (O:Good u) (p:Pt) (hx:p.unit.Short) (ac:p.unit.flat.length<=1000000) (hl:p.words.length<1000000) (hb:p.label.length<1000000000000000000):Pure G Tryz.prog 15 [.agg u.cs,.agg p.cs] (aO (revX u p)):=by
 have hT:=f37 G u O.short p.id
 have Z:=f38 G u O p.parent p.at_ p.unit hx ac
 have hM:=f39 G u O p.id p.parent p.at_
 have hL:=f40 G u O p.id p.label hb
 have M:=f41 G u O.short p.id p.words hl false
 have N:=f41 G u O.short p.id p.words hl true
 unfold aO at Z hM hL M N ⊢
 unfold takAV at hT
 rw[U.cs_eq p.unit]at Z
 simp only[Idd.cs]at hT Z hM hL M N
 have y1:=U.cs_len (remX u p.id).1
 have z1:(remX u p.id).1.cs.take 8=(remX u p.id).1.cs:=take_of_length_le (by omega)
 have y2:=U.cs_len (insX u p.parent p.at_ p.unit).1
 have z2:(insX u p.parent p.at_ p.unit).1.cs.take 8=(insX u p.parent p.at_ p.unit).1.cs:=take_of_length_le (by omega)
 have y3:=U.cs_len (movX u p.id p.parent p.at_).1
 have z3:(movX u p.id p.parent p.at_).1.cs.take 8=(movX u p.id p.parent p.at_).1.cs:=take_of_length_le (by omega)
 have y4:=U.cs_len (relX u p.id p.label).1
 have z4:(relX u p.id p.label).1.cs.take 8=(relX u p.id p.label).1.cs:=take_of_length_le (by omega)
 have y5:=U.cs_len (wrX u p.id p.words false).1
 have z5:(wrX u p.id p.words false).1.cs.take 8=(wrX u p.id p.words false).1.cs:=take_of_length_le (by omega)
 have y6:=U.cs_len (wrX u p.id p.words true).1
 have z6:(wrX u p.id p.words true).1.cs.take 8=(wrX u p.id p.words true).1.cs:=take_of_length_le (by omega)
 refine Pure.wL c15 λR I=>?_
 unfold s15 r15
 unfold Pt.cs
 unfold revX at I
 by_cases T:p.kind=0
 ·rw[if_pos T]at I
  (repeat' (first|(with_reducible refine aa hT ?_)|simp only[EVz,seval,↓reduceIte,EV6,EV7,T,y1,z1,F]|simp only[EVz,seval,↓reduceIte,EV6,EV7,T,y1,z1]|(with_reducible intro J E;(try(have D:=E;simp only[EVK]at D;first|(have F:=AI D F)|(have F:=D))))))
  all_goals exact I _ _ (LeRep.refl _)
 rw[if_neg T]at I
 have e0:decide (p.kind=0)=false:=decide_eq_false T
 by_cases k1:p.kind=1
 ·rw[if_pos k1]at I
  (repeat' (first|(with_reducible refine aa Z ?_)|simp only[EVz,seval,↓reduceIte,EV6,EV7,k1,y2,z2,F]|simp only[EVz,seval,↓reduceIte,EV6,EV7,k1,y2,z2]|(with_reducible intro J E;(try(have D:=E;simp only[EVK]at D;(have F:=D))))))
  all_goals exact I _ _ (LeRep.refl _)
 rw[if_neg k1]at I
 have e1:decide (p.kind=1)=false:=decide_eq_false k1
 by_cases V:p.kind=2
 ·rw[if_pos V]at I
  (repeat' (first|(with_reducible refine aa hM ?_)|simp only[EVz,seval,↓reduceIte,EV6,EV7,V,y3,z3,F]|simp only[EVz,seval,↓reduceIte,EV6,EV7,V,y3,z3]|(with_reducible intro J E;(try(have D:=E;simp only[EVK]at D;(have F:=D))))))
  all_goals exact I _ _ (LeRep.refl _)
 rw[if_neg V]at I
 have e2:decide (p.kind=2)=false:=decide_eq_false V
 by_cases X:p.kind=3
 ·rw[if_pos X]at I
  (repeat' (first|(with_reducible refine aa hL ?_)|simp only[EVz,seval,↓reduceIte,EV6,EV7,X,y4,z4,F]|simp only[EVz,seval,↓reduceIte,EV6,EV7,X,y4,z4]|(with_reducible intro J E;(try(have D:=E;simp only[EVK]at D;(have F:=D))))))
  all_goals exact I _ _ (LeRep.refl _)
 rw[if_neg X]at I
 have e3:decide (p.kind=3)=false:=decide_eq_false X
 by_cases Y:p.kind=4
 ·rw[if_pos Y]at I
  (repeat' (first|(with_reducible refine aa M ?_)|simp only[EVz,seval,↓reduceIte,EV6,EV7,Y,y5,z5,F]|simp only[EVz,seval,↓reduceIte,EV6,EV7,Y,y5,z5]|(with_reducible intro J E;(try(have D:=E;simp only[EVK]at D;(have F:=D))))))
  all_goals exact I _ _ (LeRep.refl _)
 rw[if_neg Y]at I
 have e4:decide (p.kind=4)=false:=decide_eq_false Y
 by_cases k5:p.kind=5
 ·rw[if_pos k5]at I
  (repeat' (first|(with_reducible refine aa N ?_)|simp only[EVz,seval,↓reduceIte,EV6,EV7,k5,y6,z6,F]|simp only[EVz,seval,↓reduceIte,EV6,EV7,k5,y6,z6]|(with_reducible intro J E;(try(have D:=E;simp only[EVK]at D;(have F:=D))))))
  all_goals exact I _ _ (LeRep.refl _)
 rw[if_neg k5]at I
 have e5:decide (p.kind=5)=false:=decide_eq_false k5
 (repeat' (first|simp only[EVz,seval,↓reduceIte,EV6,EV7,e0,e1,e2,e3,e4,e5]|(with_reducible intro J E;(try(have D:=E;simp only[EVK]at D;(have F:=D))))))
 all_goals exact I _ _ (LeRep.tup (.cons po (.cons (LeRep.refl _) .nil)))
end
theorem qo {u:U} (h:u.fit):∀y∈u.flat,y.fit:=by
 revert h
 refine U.ind (p:=λu=>u.fit->∀y∈u.flat,y.fit) (λu ih h y D=>?_) u
 rw[U.flat_eq]at D
 rcases mem_cons.1 D with rfl|D
 ·exact h
 ·obtain⟨k,E,D⟩:=bN D
  exact ih k E (((U.fit_eq u).1 h).2.2.2.2 k E) y D
theorem qy {q:Idd} {f:U->U}:∀u:U,u.fit->(∀y∈u.flat,y.id=q->(f y).fit)->(U.eve q f u).fit:=by
 refine U.ind λu ih h F=>?_
 rw[U.eve_eq]
 by_cases D:u.id=q
 ·rw[if_pos D];exact F u u.flat_self D
 ·rw[if_neg D,U.eves_map]
  obtain⟨a,b,c,d,e⟩:=(U.fit_eq u).1 h
  refine(U.fit_eq _).2 ⟨a,b,c,by simpa using d,λk I=>?_⟩
  obtain⟨x,E,rfl⟩:=mem_map.1 I
  exact ih x E (e x E) (λy J=>F y (U.flat_kid E J))
theorem qp {q:Idd}:∀us:List U,(U.cuts q us).length<=us.length/\∀y∈U.cuts q us,∃x∈us,y=U.cut q x
 |[]=>by rw[U.cuts];simp
 |x::us=>by
  obtain⟨F,I⟩:=qp us
  rw[U.cuts]
  split
  ·exact⟨Nat.le_succ_of_le F,λy D=>by obtain⟨x,E,e⟩:=I y D;exact⟨x,by simp[E],e⟩⟩
  ·refine⟨Nat.succ_le_succ F,λy D=>?_⟩
   rcases mem_cons.1 D with rfl|D
   ·exact⟨x,by simp,rfl⟩
   ·obtain⟨x,E,e⟩:=I y D;exact⟨x,by simp[E],e⟩
theorem fit_cut {q:Idd}:∀u:U,u.fit->(U.cut q u).fit:=by
 refine U.ind λu ih h=>?_
 rw[U.cut_eq]
 obtain⟨a,b,c,d,e⟩:=(U.fit_eq u).1 h
 obtain⟨s1,s2⟩:=qp (q:=q) u.kids
 refine(U.fit_eq _).2 ⟨a,b,c,Nat.lt_of_le_of_lt s1 d,λk E=>?_⟩
 obtain⟨x,D,rfl⟩:=s2 k E
 exact ih x D (e x D)
theorem fit_put {u y x:U} (E:y.fit) (F:x.fit) {k:Nat} (h:y.kids.length<=1000000):U.fit {y with kids:=l8 y.kids k x}:=by
 obtain⟨a,b,c,d,e⟩:=(U.fit_eq y).1 E
 refine(U.fit_eq _).2 ⟨a,b,c,?_,λz D=>?_⟩
 ·show(l8 y.kids k x).length<_
  unfold l8
  simp only[length_append,length_take,length_cons,length_drop]
  omega
 ·have D:z∈l8 y.kids k x:=D
  unfold l8 at D
  rcases mem_append.1 D with D|D
  ·exact e z (mem_of_mem_take D)
  ·rcases mem_cons.1 D with rfl|D
   ·exact F
   ·exact e z (mem_of_mem_drop D)
theorem qF {u y:U} (h:u.Tame) (D:y∈u.flat):y.kids.length<=1000000:=by
 have:∀u:U,u.Tame->∀y∈u.flat,y.kids.length<1000000:=by
  refine U.ind λu ih h y D=>?_
  rw[U.flat_eq]at D
  rcases mem_cons.1 D with rfl|D
  ·exact h.kids
  ·obtain⟨k,E,D⟩:=bN D
   exact ih k E (h.kid E) y D
 have:=this u h y D
 omega
theorem rev_fit {u:U} (O:Good u) {p:Pt} (hx:p.unit.fit) (Z:p.label.length<1000000000000000000) (V:p.words.length<1000000000000000000/\∀x∈p.words,x.text.length<1000000000000000000):(revX u p).1.fit:=by
 have T:=O.short
 have I:=T.1.1
 have D:noU.fit:=dK.1.1
 have J:=(fb T p.id).1.1
 have E:∀x:U,x.fit->(pz x u).fit:=λx h=>by
  unfold pz
  refine qy u I λy F _=>?_
  obtain⟨a,b,c,d,e⟩:=(U.fit_eq x).1 h
  obtain⟨a',b',c',Y,e'⟩:=(U.fit_eq y).1 (qo I y F)
  exact(U.fit_eq _).2 ⟨a,b,c,Y,e'⟩
 obtain⟨a,b,c,d,e⟩:=(U.fit_eq _).1 J
 have X:∀N,(wrX u p.id p.words N).1.fit:=λN=>by
  unfold wrX
  split
  ·exact D
  split
  ·exact D
  split
  ·exact D
  split
  ·exact D
  split
  ·exact D
  ·refine E _ ?_
   cases N
   ·exact(U.fit_eq _).2 ⟨a,b,V,d,e⟩
   ·exact(U.fit_eq _).2 ⟨a,V,c,d,e⟩
 unfold revX
 split
 ·unfold remX
  split
  ·exact D
  split
  ·exact D
  split
  ·exact D
  ·exact fit_cut u I
 split
 ·unfold insX
  split
  ·exact D
  ·exact qy u I λy F _=>fit_put (u:=u) (qo I y F) hx (qF T.1 F)
 split
 ·unfold movX
  split
  ·exact D
  split
  ·exact D
  split
  ·exact D
  split
  ·exact D
  split
  ·exact D
  split
  ·exact D
  split
  ·exact D
  ·rename_i c0 c1 c2 _ _ _ _
   rw[not_or,Classical.not_not,Classical.not_not]at c1
   rw[not_or]at c2
   have M:=(cN O c1.1 c2.1).1
   rw[←pG u O.nd c1.1 c2.1]at M
   exact qy _ M.short.1.1 λy F _=>fit_put (u:=u) (qo M.short.1.1 y F) J (qF M.short.1 F)
 split
 ·unfold relX
  split
  ·exact D
  split
  ·exact D
  split
  ·exact D
  split
  ·exact D
  split
  ·exact D
  ·exact E _ ((U.fit_eq _).2 ⟨Z,b,c,d,e⟩)
 split
 ·exact X false
 split
 ·exact X true
 ·exact D
end Go.Av
