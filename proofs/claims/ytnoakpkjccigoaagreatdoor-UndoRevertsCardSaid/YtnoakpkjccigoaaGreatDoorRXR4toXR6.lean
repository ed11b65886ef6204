/-
  UNDO, the reference 4: parents, ancestors; a unit replaced; IDs shared.
-/
import Derived.Test.YtnoakpkjccigoaaGreatDoorRXM28toXR3
import Derived.Test.YtnoakpkjccigoaaGreatDoorRXM18toXM14
import Derived.Test.YtnoakpkjccigoaaGreatDoorRXL52toXE16
namespace Go.Av
open Go Go.RowKit Go.Proofs List
set_option linter.unusedSimpArgs false
set_option linter.unusedVariables false
section
mutual
def parX (i:Idd):U->Idd×Int×Bool
 |⟨d,k,l,h,w,ks⟩=>if d=i then (zId,-1,false)else pM i d ks 0
def pM (i o:Idd):List U->Int->Idd×Int×Bool
 |[],_=>(zId,-1,false)
 |k::ks,n=>if k.id=i then (o,n,true)else if i∈k.ids then parX i k else pM i o ks (n+1)
end
theorem qx (i:Idd) (u:U):parX i u=if u.id=i then (zId,-1,false)else pM i u.id u.kids 0:=by cases u;rw[parX]
def trp (p:Idd×Int×Bool):AV:=.tup [.agg p.1.cs,.int .i64 p.2.1,.bool p.2.2]
theorem anc_here {i:Idd} {u:U} (h:u.id=i):anc i u=[]:=by unfold anc;rw[aN h];rfl
theorem qN {i:Idd} {u:U} (h:u.id≠i):anc i u=match U.ways i u.kids with|[]=>[]|x::l=>(((x::l).dropLast.map U.id).reverse++[u.id]):=by
 unfold anc
 rw[U.way_eq,if_neg h]
 cases D:U.ways i u.kids with
 |nil=>simp[fL]
 |cons x l=>simp[fL,List.dropLast]
theorem ways_yes {i:Idd} {x:U} {r:List U} (h:hasP i x=true):U.ways i (x::r)=U.way i x:=by
 have h:i∈x.ids:=by simpa[hasP]using h
 rw[U.ways_cons]
 cases D:U.way i x with
 |nil=>exact absurd h ((cO x).1 D)
 |cons y l=>rfl
theorem ways_not {i:Idd} {x:U} {r:List U} (h:hasP i x=false):U.ways i (x::r)=U.ways i r:=by
 have h:i∉x.ids:=by simpa[hasP]using h
 rw[U.ways_cons,(cO x).2 h];rfl
theorem anc_step {i:Idd} {u x:U} {r:List U} (h:u.id≠i) (D:U.ways i u.kids=U.ways i (x::r)) (E:hasP i x=true):anc i u=anc i x++[u.id]:=by
 rw[qN h,D,ways_yes E]
 have h:i∈x.ids:=by simpa[hasP]using E
 unfold anc
 cases D:U.way i x with
 |nil=>exact absurd h ((cO x).1 D)
 |cons y l=>rfl
section
variable (G:Glob)
set_option maxHeartbeats 4000000 in
theorem f79 (i:Idd):∀u:U,u.Tame->Pure G Tryz.prog 79 [.agg u.cs,.agg i.cs] (trp (parX i u)):=by
 refine U.ind λu ih ht=>?_
 have ac:=ht.kids
 unfold trp at ih ⊢
 simp only[Idd.cs]at ih
 rw[qx]
 refine Pure.w c79 λR N=>?_
 unfold s79 r79
 by_cases Y:u.id=i
 ·have V:decide (u.id=i)=true:=decide_eq_true Y
  rw[if_pos Y]at N
  (repeat' (first|(with_reducible (first|refine ab (λh=>?_) (λh=>?_)|refine ai (λh=>?_) (λh=>?_)|refine aj (λh=>?_) (λh=>?_))<;>(try simp only[DZ]at h))|(with_reducible refine AI (by omega) ?_)|simp only[EVz,seval,↓reduceIte,EV6,EV7,gv,V,D]|simp only[EVz,seval,↓reduceIte,EV6,EV7,gv,V]|(with_reducible intro M F;(try(have E:=F;simp only[EVK]at E;first|(have D:=AI E D)|(have D:=E))))|(with_reducible first|refine ae ?_ ?_|refine af ?_)|(exfalso;omega)))
  all_goals exact RQ N
 ·have V:decide (u.id=i)=false:=decide_eq_false Y
  rw[if_neg Y]at N
  (repeat' (first|(with_reducible (first|refine ab (λh=>?_) (λh=>?_)|refine ai (λh=>?_) (λh=>?_)|refine aj (λh=>?_) (λh=>?_))<;>(try simp only[DZ]at h))|(with_reducible refine AI (by omega) ?_)|simp only[EVz,seval,↓reduceIte,EV6,EV7,gv,V,D]|simp only[EVz,seval,↓reduceIte,EV6,EV7,gv,V]|(with_reducible intro M F;(try(have E:=F;simp only[EVK]at E;first|(have D:=AI E D)|(have D:=E))))|(with_reducible first|refine ae ?_ ?_|refine af ?_)|(exfalso;omega)))
  refine ay u.kids (λn r (c:Unit)=>pM i u.id u.kids 0=pM i u.id r n) (λn c=>[(2,.ref u.cs),(3,.ref i.cs),(4,.sc (.pointer (some ⟨M,0,none⟩))),(7,.int .i64 n)]) (λ_ _=>[(M,.cells 23 [.int .i64 0,.int .i64 0,.int .i64 0])]) () rfl (Weak.rfl' _ _) (by omega) (λn x r c J I T=>?_) (λc J hn=>?_)
  ·have X:=f69 G i x (ht.kid I.mem)
   simp only[Idd.cs]at X
   have hI:=ih x I.mem (ht.kid I.mem)
   rw[pM]at J
   by_cases Z:x.id=i
   ·have O:decide (x.id=i)=true:=decide_eq_true Z
    rw[if_pos Z]at J
    rw[J]at N
    (repeat' (first|(with_reducible (first|refine ab (λh=>?_) (λh=>?_)|refine ai (λh=>?_) (λh=>?_)|refine aj (λh=>?_) (λh=>?_))<;>(try simp only[DZ]at h))|(with_reducible refine AI (by omega) ?_)|simp only[EVz,seval,↓reduceIte,EV6,EV7,I.yes,I.le0,I.lt',I.row,T,I.get,gv,O,D]|simp only[EVz,seval,↓reduceIte,EV6,EV7,I.yes,I.le0,I.lt',I.row,T,I.get,gv,O]|(with_reducible intro M F;(try(have E:=F;simp only[EVK]at E;first|(have D:=AI E D)|(have D:=E))))|(with_reducible first|refine ae ?_ ?_|refine af ?_)|(exfalso;omega)))
    all_goals exact RQ N
   ·have O:decide (x.id=i)=false:=decide_eq_false Z
    rw[if_neg Z]at J
    cases hp:hasP i x with
    |true=>
     rw[hp]at X
     rw[if_pos (by simpa[hasP]using hp)]at J
     rw[J]at N
     (repeat' (first|(with_reducible (first|refine ab (λh=>?_) (λh=>?_)|refine ai (λh=>?_) (λh=>?_)|refine aj (λh=>?_) (λh=>?_))<;>(try simp only[DZ]at h))|(with_reducible first|refine AI (by omega) ?_|refine aa X ?_|refine aa hI ?_)|simp only[EVz,seval,↓reduceIte,EV6,EV7,I.yes,I.le0,I.lt',I.row,T,I.get,gv,O,D]|simp only[EVz,seval,↓reduceIte,EV6,EV7,I.yes,I.le0,I.lt',I.row,T,I.get,gv,O]|(with_reducible intro M F;(try(have E:=F;simp only[EVK]at E;first|(have D:=AI E D)|(have D:=E))))|(with_reducible first|refine ae ?_ ?_|refine af ?_)|(exfalso;omega)))
     all_goals exact RQ N
    |false=>
     rw[hp]at X
     rw[if_neg (by simpa[hasP]using hp)]at J
     (repeat' (first|(with_reducible (first|refine ab (λh=>?_) (λh=>?_)|refine ai (λh=>?_) (λh=>?_)|refine aj (λh=>?_) (λh=>?_))<;>(try simp only[DZ]at h))|(with_reducible first|refine AI (by omega) ?_|refine aa X ?_)|simp only[EVz,seval,↓reduceIte,EV6,EV7,I.yes,I.le0,I.lt',I.row,T,I.get,gv,O,D]|simp only[EVz,seval,↓reduceIte,EV6,EV7,I.yes,I.le0,I.lt',I.row,T,I.get,gv,O]|(with_reducible intro M F;(try(have E:=F;simp only[EVK]at E;first|(have D:=AI E D)|(have D:=E))))|(with_reducible first|refine ae ?_ ?_|refine af ?_)|(exfalso;omega)))
     all_goals exact ap I () (by rw[J];congr 1) (Weak.sub (by first|exact SubN.refl _|exact(SubN.refl _).tail _|exact((SubN.refl _).tail _).tail _))
  ·rw[pM]at J
   rw[J]at N
   (repeat' (first|(with_reducible (first|refine ab (λh=>?_) (λh=>?_)|refine ai (λh=>?_) (λh=>?_)|refine aj (λh=>?_) (λh=>?_))<;>(try simp only[DZ]at h))|(with_reducible refine AI (by omega) ?_)|simp only[EVz,seval,↓reduceIte,EV6,EV7,hn,D]|simp only[EVz,seval,↓reduceIte,EV6,EV7,hn]|(with_reducible intro M F;(try(have E:=F;simp only[EVK]at E;first|(have D:=AI E D)|(have D:=E))))|(with_reducible first|refine ae ?_ ?_|refine af ?_)|(exfalso;omega)))
   all_goals exact RQ N
def abvS (i:Idd) (u:U) (r:AV) (σ:Store):Prop:=∃g,(r= .own g 23 3 ((anc i u).map Idd.cs)\/(r= .nil/\g=none/\anc i u=[]))/\σ=tokS g 23 ((anc i u).length*3)
set_option maxHeartbeats 4000000 in
theorem f141 (i:Idd):∀u:U,u.Tame->ag G Tryz.prog 141 [.agg u.cs,.agg i.cs] [] (abvS i u):=by
 refine U.ind λu ih ht=>?_
 have ah:=ht.kids
 simp only[Idd.cs]at ih
 refine ag.w c141 ?_
 unfold s141 r141
 by_cases Y:u.id=i
 ·have X:decide (u.id=i)=true:=decide_eq_true Y
  (repeat' (first|(with_reducible (first|refine ab (λh=>?_) (λh=>?_)|refine ai (λh=>?_) (λh=>?_)|refine aj (λh=>?_) (λh=>?_))<;>(try simp only[DZ]at h))|(with_reducible refine AI (by omega) ?_)|simp only[EVz,seval,↓reduceIte,EV6,EV7,gv,X,D]|simp only[EVz,seval,↓reduceIte,EV6,EV7,gv,X]|(with_reducible intro O F;(try(have E:=F;simp only[EVK]at E;first|(have D:=AI E D)|(have D:=E))))|(with_reducible first|refine ae ?_ ?_|refine af ?_)|(exfalso;omega)))
  all_goals exact RET.mk (SubN.nil _) ⟨none,.inr ⟨rfl,rfl,anc_here Y⟩,rfl⟩
 ·have X:decide (u.id=i)=false:=decide_eq_false Y
  (repeat' (first|(with_reducible (first|refine ab (λh=>?_) (λh=>?_)|refine ai (λh=>?_) (λh=>?_)|refine aj (λh=>?_) (λh=>?_))<;>(try simp only[DZ]at h))|(with_reducible refine AI (by omega) ?_)|simp only[EVz,seval,↓reduceIte,EV6,EV7,gv,X,D]|simp only[EVz,seval,↓reduceIte,EV6,EV7,gv,X]|(with_reducible intro O F;(try(have E:=F;simp only[EVK]at E;first|(have D:=AI E D)|(have D:=E))))|(with_reducible first|refine ae ?_ ?_|refine af ?_)|(exfalso;omega)))
  refine ay u.kids (λn r (c:Unit)=>U.ways i u.kids=U.ways i r) (λn c=>[(2,.ref u.cs),(3,.ref i.cs),(5,.int .i64 n)]) (λ_ _=>[]) () rfl (Weak.rfl' _ _) (by omega) (λn x r c V I hw=>?_) (λc V hn=>?_)
  ·have Z:=f69 G i x (ht.kid I.mem)
   simp only[Idd.cs]at Z
   have hI:=ih x I.mem (ht.kid I.mem)
   have ad:(anc i x).length<1000000:=by
    have:=eF i x
    have:=(ht.kid I.mem).2
    unfold anc
    rw[length_reverse,length_map,length_dropLast]
    omega
   cases hp:hasP i x with
   |true=>
    rw[hp]at Z
    have J:=anc_step Y V hp
    (repeat' (first|(with_reducible (first|refine ab (λh=>?_) (λh=>?_)|refine ai (λh=>?_) (λh=>?_)|refine aj (λh=>?_) (λh=>?_))<;>(try simp only[DZ]at h))|(with_reducible first|refine AI (by omega) ?_|refine aa Z ?_)|simp only[EVz,seval,↓reduceIte,EV6,EV7,I.yes,I.le0,I.lt',I.row,hw,I.get,D]|simp only[EVz,seval,↓reduceIte,EV6,EV7,I.yes,I.le0,I.lt',I.row,hw,I.get]|(with_reducible intro O F;(try(have E:=F;simp only[EVK]at E;first|(have D:=AI E D)|(have D:=E))))|(with_reducible first|refine ae ?_ ?_|refine af ?_)|(refine aT [] [(_,_)] hI.v (ax.rfl' _) (SubN.refl _) (λv κ ho M=>⟨_,SubN.pull1,?_⟩);obtain⟨g,hv,rfl⟩:=ho;rw[append_nil];rcases hv with rfl|⟨rfl,rfl,N⟩)|(refine aT [] [(_,_),(_,_)] hI.v (ax.rfl' _) (SubN.refl _) (λv κ ho M=>⟨_,SubN.pull2,?_⟩);obtain⟨g,hv,rfl⟩:=ho;rw[append_nil];rcases hv with rfl|⟨rfl,rfl,N⟩)|(refine⟨[u.id.cs],rfl,(by simp[Idd.cs]),(by simp[Idd.cs]),?_⟩)|(refine nV (n:=(anc i x).length) (m':=((anc i x).length+1)*3) [(_,_)] (by rfl) (by intro d hd hm;first|(cases hd;done)|(subst hd;simp[Store.keys,tokS]at M hm;omega)) (by first|(simp;done)|(rw[N];rfl)) (by first|rfl|(rw[N];rfl)) rfl rfl (by first|assumption|(simp[Store.keys,tokS]at M ⊢ <;>omega)|(cases g<;>simp[Store.keys,tokS]at M ⊢ <;>omega)) (by omega) (λT ac=>?_))|(refine nV (n:=(anc i x).length) (m':=((anc i x).length+1)*3) [(_,_),(_,_)] (by rfl) (by intro d hd hm;first|(cases hd;done)|(subst hd;simp[Store.keys,tokS]at M hm;omega)) (by first|(simp;done)|(rw[N];rfl)) (by first|rfl|(rw[N];rfl)) rfl rfl (by first|assumption|(simp[Store.keys,tokS]at M ⊢ <;>omega)|(cases g<;>simp[Store.keys,tokS]at M ⊢ <;>omega)) (by omega) (λT ac=>?_))|(exfalso;omega)))
    all_goals first
     |exact RET.mk' (σ':=tokS T 23 (((anc i x).length+1)*3)) ((SubN.refl _).tail _) ⟨T,.inl (by rw[J,map_append];rfl),by rw[J,length_append];rfl⟩
     |exact RET.mk' (σ':=tokS T 23 (((anc i x).length+1)*3)) ((SubN.refl _).tail _) ⟨T,.inl (by rw[J,N];rfl),by rw[J,length_append];rfl⟩
     |exact RET.mk' (σ':=tokS T 23 (((anc i x).length+1)*3)) (((SubN.refl _).tail _).tail _) ⟨T,.inl (by rw[J,map_append];rfl),by rw[J,length_append];rfl⟩
     |exact RET.mk' (σ':=tokS T 23 (((anc i x).length+1)*3)) (((SubN.refl _).tail _).tail _) ⟨T,.inl (by rw[J,N];rfl),by rw[J,length_append];rfl⟩
     |trace_state
   |false=>
    rw[hp]at Z
    (repeat' (first|(with_reducible (first|refine ab (λh=>?_) (λh=>?_)|refine ai (λh=>?_) (λh=>?_)|refine aj (λh=>?_) (λh=>?_))<;>(try simp only[DZ]at h))|(with_reducible first|refine AI (by omega) ?_|refine aa Z ?_)|simp only[EVz,seval,↓reduceIte,EV6,EV7,I.yes,I.le0,I.lt',I.row,hw,I.get,D]|simp only[EVz,seval,↓reduceIte,EV6,EV7,I.yes,I.le0,I.lt',I.row,hw,I.get]|(with_reducible intro O F;(try(have E:=F;simp only[EVK]at E;first|(have D:=AI E D)|(have D:=E))))|(with_reducible first|refine ae ?_ ?_|refine af ?_)|(exfalso;omega)))
    all_goals exact ap I () (by rw[V,ways_not hp]) (Weak.sub (by first|exact SubN.refl _|exact(SubN.refl _).tail _|exact((SubN.refl _).tail _).tail _))
  ·have e:anc i u=[]:=by rw[qN Y,V,U.ways_nil]
   (repeat' (first|(with_reducible (first|refine ab (λh=>?_) (λh=>?_)|refine ai (λh=>?_) (λh=>?_)|refine aj (λh=>?_) (λh=>?_))<;>(try simp only[DZ]at h))|(with_reducible refine AI (by omega) ?_)|simp only[EVz,seval,↓reduceIte,EV6,EV7,hn,D]|simp only[EVz,seval,↓reduceIte,EV6,EV7,hn]|(with_reducible intro O F;(try(have E:=F;simp only[EVK]at E;first|(have D:=AI E D)|(have D:=E))))|(with_reducible first|refine ae ?_ ?_|refine af ?_)|(exfalso;omega)))
   all_goals exact RET.mk (SubN.nil _) ⟨none,.inr ⟨rfl,rfl,e⟩,rfl⟩
set_option maxHeartbeats 4000000 in
theorem f80 (x:U):∀u:U,u.Tame->Pure G Tryz.prog 80 [.agg u.cs,.agg x.cs] (.agg (pz x u).cs):=by
 unfold pz
 refine U.ind λu ih ht=>?_
 have al:=ht.kids
 refine Pure.w c80 λR M=>?_
 unfold s80 r80
 by_cases T:u.id=x.id
 ·have O:decide (u.id=x.id)=true:=decide_eq_true T
  rw[U.eve_eq,if_pos T]at M
  generalize hf:(U.eve x.id λy=>{x with kids:=y.kids})=f at*
  rw[U.cs_eq u,U.cs_eq x]
  (repeat' (first|(with_reducible (first|refine ab (λh=>?_) (λh=>?_)|refine ai (λh=>?_) (λh=>?_)|refine aj (λh=>?_) (λh=>?_))<;>(try simp only[DZ]at h))|(with_reducible refine AI (by omega) ?_)|simp only[EVz,seval,↓reduceIte,EV6,EV7,gv,O,E]|simp only[EVz,seval,↓reduceIte,EV6,EV7,gv,O]|(with_reducible intro N I;(try(have D:=I;simp only[EVK]at D;first|(have E:=AI D E)|(have E:=D))))|(with_reducible first|refine ae ?_ ?_|refine af ?_)|(exfalso;omega)))
  (all_goals(first|(exact RET.eq M rfl)|rfl|(refine RET.eq M ?_;(refine congrArg AV.bool (Bool.eq_iff_iff.2 ?_);simp only[U.cs_eq,EVB]at*;omega))|(refine RET.eq M ?_;first|(simp only[U.cs_eq,F,h,EVC,decide_true,decide_false];done)|(simp only[U.cs_eq,F,EVC,decide_true,decide_false];done)|(simp only[U.cs_eq,F,EVC,decide_true,decide_false];refine congrArg AV.bool (decide_eq_decide.2 ?_);omega)|(simp_all[U.cs_eq];done)|(simp_all[U.cs_eq];omega)|grind|(norm_cast at*;simp_all[U.cs_eq];done)|(norm_cast at*;simp_all[U.cs_eq];omega))|(refine M _ _ (Or.inl (Or.inr ⟨rfl,?_⟩));simp[U.cs_eq];done)|(refine M _ _ (Or.inr ?_);simp[*,bc,aR,Itm.cs_eq,U.cs_eq,U.cs_eq];done)|(rw[F];simp only[U.cs_eq,h,EVC,decide_true,decide_false];done)|(rw[F];simp only[U.cs_eq,EVC,decide_true,decide_false];done)|(simp_all[U.cs_eq];done)|(simp_all[U.cs_eq];omega)|grind|(norm_cast at*;simp_all[U.cs_eq];done)|(norm_cast at*;simp_all[U.cs_eq];omega)))
 ·have O:decide (u.id=x.id)=false:=decide_eq_false T
  rw[U.eve_eq,if_neg T,U.eves_map]at M
  generalize hf:(U.eve x.id λy=>{x with kids:=y.kids})=f at*
  rw[U.cs_eq x]at ih
  rw[U.cs_eq u,U.cs_eq x]
  (repeat' (first|(with_reducible (first|refine ab (λh=>?_) (λh=>?_)|refine ai (λh=>?_) (λh=>?_)|refine aj (λh=>?_) (λh=>?_))<;>(try simp only[DZ]at h))|(with_reducible refine AI (by omega) ?_)|simp only[EVz,seval,↓reduceIte,EV6,EV7,gv,O,E]|simp only[EVz,seval,↓reduceIte,EV6,EV7,gv,O]|(with_reducible intro N I;(try(have D:=I;simp only[EVK]at D;first|(have E:=AI D E)|(have E:=D))))|(with_reducible first|refine ae ?_ ?_|refine af ?_)|(refine⟨[],rfl,(by simp),rfl,?_⟩)|(exfalso;omega)))
  rename_i V ac _ _ Y ah _ _ X ad _ _
  refine ay (ι:=Option Nat) u.kids (λi r c=>∀d,c=some d->d∉Store.keys [(X,AObj.cells 27 []),(Y,AObj.cells 27 []),(V,AObj.cells 27 [])]) (λi c=>[(2,.sc (.pointer (some ⟨V,0,none⟩))),(3,.sc (.pointer (some ⟨Y,0,none⟩))),(4,.sc (.pointer (some ⟨X,0,none⟩))),(5,.own c 27 8 ((u.kids.take i).map λk'=>(f k').cs)),(6,.int .i64 i)]) (λi c=>[(X,.cells 27 zU),(Y,.cells 27 [.int .i64 x.id.act,.int .i64 x.id.item,.int .i64 x.id.n,.int .i64 x.kind,.str x.label,.lst 4 (x.head.map Wd.cs),.lst 4 (x.words.map Wd.cs),.lst 8 (x.kids.map U.cs)]),(V,.cells 27 [.int .i64 u.id.act,.int .i64 u.id.item,.int .i64 u.id.n,.int .i64 u.kind,.str u.label,.lst 4 (u.head.map Wd.cs),.lst 4 (u.words.map Wd.cs),.lst 8 (u.kids.map U.cs)])]++tokS c 27 (i*8)) (some N) (by rintro d h;injection h with h;subst h;simpa[Store.keys]using D) (by first|exact Weak.sub (SubN.perm (perm_append_comm (l₁:=[_,_,_]) (l₂:=[_])))|exact Weak.sub (SubN.perm (perm_append_comm (l₁:=[_]) (l₂:=[_,_,_])))) (by omega) (λi y r c F J hw=>?_) (λc F hn=>?_)
  ·(repeat' (first|(with_reducible (first|refine ab (λh=>?_) (λh=>?_)|refine ai (λh=>?_) (λh=>?_)|refine aj (λh=>?_) (λh=>?_))<;>(try simp only[DZ]at h))|(with_reducible first|refine AI (by omega) ?_|refine aa (ih y J.mem (ht.kid J.mem)) ?_)|simp only[EVz,seval,↓reduceIte,EV6,EV7,J.yes,J.le0,J.lt',J.row,hw,J.get,E]|simp only[EVz,seval,↓reduceIte,EV6,EV7,J.yes,J.le0,J.lt',J.row,hw,J.get]|(with_reducible intro N I;(try(have D:=I;simp only[EVK]at D;first|(have E:=AI D E)|(have E:=D))))|(with_reducible first|refine ae ?_ ?_|refine af ?_)|(refine⟨[(f y).cs],rfl,(by simp[U.cs_len]),(by simp),?_⟩)|(refine nV (n:=i) (m':=(i+1)*8) [_,_,_] (by rfl) (by simpa[Store.keys]using F) (by simp;have:=J.lt;omega) rfl rfl (U.cs_len _) (by assumption) (by have:=J.lt;omega) (λgn Z=>?_))|(refine ap J gn (by simpa[Store.keys]using Z) (by simp only[J.take,map_append,map_cons,map_nil];exact Weak.rfl' _ _))|(exfalso;omega)))
  ·(repeat' (first|(with_reducible (first|refine ab (λh=>?_) (λh=>?_)|refine ai (λh=>?_) (λh=>?_)|refine aj (λh=>?_) (λh=>?_))<;>(try simp only[DZ]at h))|(with_reducible refine AI (by omega) ?_)|simp only[EVz,seval,↓reduceIte,EV6,EV7,hn,E]|simp only[EVz,seval,↓reduceIte,EV6,EV7,hn]|(with_reducible intro N I;(try(have D:=I;simp only[EVK]at D;first|(have E:=AI D E)|(have E:=D))))|(with_reducible first|refine ae ?_ ?_|refine af ?_)|(exfalso;omega)))
   (all_goals(first|(exact RET.eq M rfl)|rfl|(refine RET.eq M ?_;(refine congrArg AV.bool (Bool.eq_iff_iff.2 ?_);simp only[U.cs_eq,EVB]at*;omega))|(refine RET.eq M ?_;first|(simp only[U.cs_eq,F,h,EVC,decide_true,decide_false];done)|(simp only[U.cs_eq,F,EVC,decide_true,decide_false];done)|(simp only[U.cs_eq,F,EVC,decide_true,decide_false];refine congrArg AV.bool (decide_eq_decide.2 ?_);omega)|(simp_all[U.cs_eq];done)|(simp_all[U.cs_eq];omega)|grind|(norm_cast at*;simp_all[U.cs_eq];done)|(norm_cast at*;simp_all[U.cs_eq];omega))|(refine M _ _ (Or.inl (Or.inr ⟨rfl,?_⟩));simp[U.cs_eq];done)|(refine M _ _ (Or.inr ?_);simp[*,bc,aR,Itm.cs_eq,U.cs_eq,U.cs_eq];done)|(rw[F];simp only[U.cs_eq,h,EVC,decide_true,decide_false];done)|(rw[F];simp only[U.cs_eq,EVC,decide_true,decide_false];done)|(simp_all[U.cs_eq];done)|(simp_all[U.cs_eq];omega)|grind|(norm_cast at*;simp_all[U.cs_eq];done)|(norm_cast at*;simp_all[U.cs_eq];omega)))
theorem f76 (i:Idd) (u:U) (V:u.Tame):Pure G Tryz.prog 76 [.agg u.cs,.agg i.cs] (.int .i64 (anc i u).length):=by
 have J:=f141 G i u V
 simp only[Idd.cs]at J
 refine Pure.w c76 λR M=>?_
 unfold s76 r76
 (repeat' (first|(with_reducible (first|refine ab (λh=>?_) (λh=>?_)|refine ai (λh=>?_) (λh=>?_)|refine aj (λh=>?_) (λh=>?_))<;>(try simp only[DZ]at h))|(with_reducible refine AI (by omega) ?_)|simp only[EVz,seval,↓reduceIte,EV6,EV7,D]|simp only[EVz,seval,↓reduceIte,EV6,EV7]|(with_reducible intro N F;(try(have E:=F;simp only[EVK]at E;first|(have D:=AI E D)|(have D:=E))))|(with_reducible first|refine ae ?_ ?_|refine af ?_)|(refine aT [] [] J.v (ax.rfl' _) (SubN.refl _) (λv κ T O=>⟨_,SubN.refl _,?_⟩);obtain⟨g,X,rfl⟩:=T;rw[append_nil];rcases X with rfl|⟨rfl,rfl,I⟩)|(exfalso;omega)))
 ·exact M _ _ (.inl (.inl (by simp)))
 ·exact M _ _ (.inl (.inl (by rw[I];rfl)))
theorem f139 (u x:U) (Z:u.Tame) (F:x.Tame):Pure G Tryz.prog 139 [.agg u.cs,.agg x.cs] (.bool (x.ids.any λj=>hasP j u)):=by
 have Y:=f56 G x F
 have hl:x.ids.length<1000000:=by rw[U.ids_len];exact F.2
 refine Pure.w c139 λR O=>?_
 unfold s139 r139
 (repeat' (first|(with_reducible (first|refine ab (λh=>?_) (λh=>?_)|refine ai (λh=>?_) (λh=>?_)|refine aj (λh=>?_) (λh=>?_))<;>(try simp only[DZ]at h))|(with_reducible first|refine AI (by omega) ?_|refine aa Y ?_)|simp only[EVz,seval,↓reduceIte,EV6,EV7,D]|simp only[EVz,seval,↓reduceIte,EV6,EV7]|(with_reducible intro M I;(try(have E:=I;simp only[EVK]at E;first|(have D:=AI E D)|(have D:=E))))|(with_reducible first|refine ae ?_ ?_|refine af ?_)|(exfalso;omega)))
 refine ay x.ids (λn r (c:Unit)=>(x.ids.any λj=>hasP j u)=r.any λj=>hasP j u) (λn c=>[(2,.ref u.cs),(5,.lst 3 (x.ids.map Idd.cs)),(6,.int .i64 n)]) (λ_ _=>[]) () rfl (Weak.rfl' _ _) (by omega) (λn j r c J F T=>?_) (λc J V=>?_)
 ·have N:=f73 G j u Z
  simp only[Idd.cs]at N
  rw[any_cons]at J
  cases X:hasP j u with
  |true=>
   rw[X]at N J
   rw[J]at O
   (repeat' (first|(with_reducible (first|refine ab (λh=>?_) (λh=>?_)|refine ai (λh=>?_) (λh=>?_)|refine aj (λh=>?_) (λh=>?_))<;>(try simp only[DZ]at h))|(with_reducible first|refine AI (by omega) ?_|refine aa N ?_)|simp only[EVz,seval,↓reduceIte,EV6,EV7,F.yes,F.le0,F.lt',F.row,T,F.get,D]|simp only[EVz,seval,↓reduceIte,EV6,EV7,F.yes,F.le0,F.lt',F.row,T,F.get]|(with_reducible intro M I;(try(have E:=I;simp only[EVK]at E;first|(have D:=AI E D)|(have D:=E))))|(with_reducible first|refine ae ?_ ?_|refine af ?_)|(exfalso;omega)))
   all_goals exact RQ O
  |false=>
   rw[X]at N J
   (repeat' (first|(with_reducible (first|refine ab (λh=>?_) (λh=>?_)|refine ai (λh=>?_) (λh=>?_)|refine aj (λh=>?_) (λh=>?_))<;>(try simp only[DZ]at h))|(with_reducible first|refine AI (by omega) ?_|refine aa N ?_)|simp only[EVz,seval,↓reduceIte,EV6,EV7,F.yes,F.le0,F.lt',F.row,T,F.get,D]|simp only[EVz,seval,↓reduceIte,EV6,EV7,F.yes,F.le0,F.lt',F.row,T,F.get]|(with_reducible intro M I;(try(have E:=I;simp only[EVK]at E;first|(have D:=AI E D)|(have D:=E))))|(with_reducible first|refine ae ?_ ?_|refine af ?_)|(exfalso;omega)))
   all_goals exact ap F () (by rw[J];rfl) (Weak.rfl' _ _)
 ·rw[J]at O
  (repeat' (first|(with_reducible (first|refine ab (λh=>?_) (λh=>?_)|refine ai (λh=>?_) (λh=>?_)|refine aj (λh=>?_) (λh=>?_))<;>(try simp only[DZ]at h))|(with_reducible refine AI (by omega) ?_)|simp only[EVz,seval,↓reduceIte,EV6,EV7,V,D]|simp only[EVz,seval,↓reduceIte,EV6,EV7,V]|(with_reducible intro M I;(try(have E:=I;simp only[EVK]at E;first|(have D:=AI E D)|(have D:=E))))|(with_reducible first|refine ae ?_ ?_|refine af ?_)|(exfalso;omega)))
  all_goals exact RQ O
end
end
theorem named_of:∀u:U,(∀y∈u.flat,y.kind=0\/y.id≠zId)->u.named=true:=by
 refine U.ind λu ih h=>?_
 have key:∀us:List U,(∀k∈us,k∈u.kids)->U.nameds us=true:=by
  intro us
  induction us with
  |nil=>intro _;rw[U.nameds_nil]
  |cons x us ihu=>
   intro E
   have F:=E x (by simp)
   rw[U.nameds_cons,ih x F (λy I=>h y (U.flat_kid F I)),ihu λk D=>E k (by simp[D])]
   rfl
 rw[U.named_eq,key u.kids λk D=>D]
 have:=h u u.flat_self
 simpa using this
theorem kid_pos:∀u:U,(∀y∈u.flat,nodeOk y=true)->∀y∈U.flats u.kids,y.kind≠0:=by
 refine U.ind λu ih h y D=>?_
 obtain⟨k,E,D⟩:=bN D
 rw[U.flat_eq]at D
 rcases mem_cons.1 D with rfl|D
 ·exact jd (df (h u u.flat_self) y E)
 ·exact ih k E (λz F=>h z (U.flat_kid E F)) y D
theorem stands_eq (u:U):(pF u&&u.named)=stP u:=by
 unfold stP
 rw[kG]
 cases N:pq u with
 |false=>rfl
 |true=>
  have J:=N
  unfold pq at J
  rw[Bool.and_eq_true]at J
  have M:=kid_pos u (λy D=>all_eq_true.1 J.1 y D)
  rw[Bool.true_and,Bool.true_and,Bool.eq_iff_iff]
  have hi:u.ids=u.id::(U.flats u.kids).map U.id:=by rw[U.ids_eq];rfl
  rw[hi]
  simp only[Bool.not_eq_true',any_eq_false,decide_eq_true_eq]
  constructor
  ·intro h x F e
   have I:=oD u h
   rw[U.flat_eq]at I
   by_cases E:u.kind=0
   ·rw[if_pos E]at F
    obtain⟨y,D,rfl⟩:=mem_map.1 F
    rcases I y (mem_cons_of_mem _ D)with c|c
    ·exact M y D c
    ·exact c e
   ·rw[if_neg E]at F
    rcases mem_cons.1 F with rfl|F
    ·rcases I u mem_cons_self with c|c
     ·exact E c
     ·exact c e
    ·obtain⟨y,D,rfl⟩:=mem_map.1 F
     rcases I y (mem_cons_of_mem _ D)with c|c
     ·exact M y D c
     ·exact c e
  ·intro h
   refine named_of u λy D=>?_
   rw[U.flat_eq]at D
   by_cases E:u.kind=0
   ·rw[if_pos E]at h
    rcases mem_cons.1 D with rfl|D
    ·exact .inl E
    ·exact .inr (h _ (mem_map.2 ⟨y,D,rfl⟩))
   ·rw[if_neg E]at h
    rcases mem_cons.1 D with rfl|D
    ·exact .inr (h _ mem_cons_self)
    ·exact .inr (h _ (mem_cons_of_mem _ (mem_map.2 ⟨y,D,rfl⟩)))
section
variable (G:Glob)
theorem s54X (u:U) (D:u.Short):Pure G Tryz.prog 54 [.agg u.cs] (.bool (stP u)):=by
 rw[←stands_eq];exact f54 G u D
set_option maxHeartbeats 8000000 in
theorem f71 (u:U) (J:u.Short) (q:Idd) (k:Int) (x:U) (Z:x.Short) (al:x.flat.length<=1000000) (ah:u.flat.length<=1000000):Pure G Tryz.prog 71 [.agg u.cs,.agg q.cs,.int .i64 k,.agg x.cs] (.int .i64 (en u q k x)):=by
 have N:=s54X G u J
 have I:=s54X G x Z
 have X:=f69 G q u J.1
 have hN:=f74 G (fnd q u).kind x.kind
 have Y:=f75 G (fnd q u).kids x.kind x.label x.id true (by have:=(fb J q).1.kids;exact this)
 rw[pX]at Y
 have hD:=f76 G q u J.1
 have E:=f77 G x Z.1
 have M:=f138 G u J.1
 have D:=f138 G x Z.1
 have F:=f139 G u x J.1 Z.1
 simp only[Idd.cs]at X Y hD
 have h1:(anc q u).length<=u.flat.length:=by
  unfold anc
  rw[length_reverse,length_map,length_dropLast]
  have:=eF q u
  omega
 have h3:=x.dep_cnt
 have h5:=x.dep_ge
 unfold U.cnt at h3
 have w1:IntKind.i64.wrap (((anc q u).length:Int)+1)=((anc q u).length:Int)+1:=aA (by omega) (by omega)
 have w2:IntKind.i64.wrap (((anc q u).length:Int)+1+x.dep)=((anc q u).length:Int)+1+x.dep:=aA (by omega) (by omega)
 have w3:IntKind.i64.wrap (u.cnt+x.cnt)=u.cnt+x.cnt:=by unfold U.cnt;exact aA (by omega) (by omega)
 have V:=U.cs_eq (fnd q u)
 refine Pure.w c71 λR hR=>?_
 unfold s71 r71
 rw[V]at X
 rw[U.cs_eq x]at I E D F ⊢
 have an:=p8 (u:=u) (q:=q)
 unfold en at hR
 (repeat' (first|(with_reducible (first|refine ab (λh=>?_) (λh=>?_)|refine ai (λh=>?_) (λh=>?_))<;>(try simp only[DZ]at h))|(with_reducible first|refine aa N ?_|refine aa I ?_|refine aa X ?_|refine aa hN ?_|refine aa Y ?_|refine aa hD ?_|refine aa E ?_|refine aa M ?_|refine aa D ?_|refine aa F ?_)|simp only[EVz,seval,↓reduceIte,EV6,EV7,w1,w2,w3,hasP,ac]|simp only[EVz,seval,↓reduceIte,EV6,EV7,w1,w2,w3,hasP]|(with_reducible intro ad O;(try(have T:=O;simp only[EVK]at T;(have ac:=T))))))
 all_goals
  refine hR _ _ (.inl (.inl ?_))
  clear hR N I X hN Y hD E M D F V w1 w2 w3
  first|(simp_all;done)|(simp_all;omega)|(simp_all;rw[if_neg (by omega),if_neg (by omega),if_neg (by rintro⟨y,hy,hz⟩;rename_i h;exact h y hy hz)])
end
theorem fits_in {u:U} {q:Idd} {k:Int} {x:U} (h:en u q k x=0):0<=k/\k<=(fnd q u).kids.length:=by
 unfold en at h
 split at h
 ·cases h
 split at h
 ·cases h
 split at h
 ·cases h
 split at h
 ·cases h
 ·omega
section
variable (G:Glob)
theorem qH {u:U} (F:u.ids.Nodup) (I:u.Tame) (q:Idd) (k:Int) (x:U) (D:0<=k) (E:k<=(fnd q u).kids.length):Pure G Tryz.prog 72 [.agg u.cs,.agg q.cs,.int .i64 k,.agg x.cs] (.agg (U.eve q (λy=>{y with kids:=l8 y.kids k.toNat x}) u).cs):=by
 obtain⟨n,rfl⟩:=Int.eq_ofNat_of_zero_le D
 exact f72 G q n x u I (λy J e=>by subst e;rw[qD F J]at E;omega)
set_option maxHeartbeats 4000000 in
theorem f38 (u:U) (X:Good u) (q:Idd) (k:Int) (x:U) (hx:x.Short) (V:x.flat.length<=1000000):Pure G Tryz.prog 38 [.agg u.cs,.agg q.cs,.int .i64 k,.agg x.cs] (aO (insX u q k x)):=by
 have hu:=X.short
 have O:=f71 G u hu q k x hx V (by have:=X.cnt;omega)
 unfold aO insX
 simp only[Idd.cs]at O
 refine Pure.wL c38 λR N=>?_
 unfold s38 r38
 by_cases h:en u q k x=0
 ·have I:=qH G X.nd hu.1 q k x (fits_in h).1 (fits_in h).2
  simp only[Idd.cs]at I
  rw[if_neg (by simpa using h)]at N
  have J:=U.cs_len (U.eve q (λy=>{y with kids:=l8 y.kids k.toNat x}) u)
  generalize (U.eve q (λy=>{y with kids:=l8 y.kids k.toNat x}) u).cs=ys at*
  have M:ys.take 8=ys:=take_of_length_le (by omega)
  rw[h]at O
  (repeat' (first|(with_reducible first|refine aa O ?_|refine aa I ?_)|simp only[EVz,seval,↓reduceIte,EV6,EV7,J,M,F]|simp only[EVz,seval,↓reduceIte,EV6,EV7,J,M]|(with_reducible intro T D;(try(have E:=D;simp only[EVK]at E;(have F:=E))))))
  all_goals exact N _ _ (LeRep.refl _)
 ·rw[if_pos h]at N
  generalize en u q k x=e at*
  have Y:decide (e=0)=false:=decide_eq_false h
  have Z:decide (e≠0)=true:=decide_eq_true h
  (repeat' (first|(with_reducible refine aa O ?_)|simp only[EVz,seval,↓reduceIte,EV6,EV7,Y,Z,h,F]|simp only[EVz,seval,↓reduceIte,EV6,EV7,Y,Z,h]|(with_reducible intro T D;(try(have E:=D;simp only[EVK]at E;(have F:=E))))))
  all_goals exact N _ _ (LeRep.tup (.cons po (.cons (LeRep.refl _) .nil)))
def takAV (u:U) (i:Idd):AV:=.tup [.agg (remX u i).1.cs,.agg (if (remX u i).2=0 then fnd i u else noU).cs,.int .i64 (remX u i).2]
set_option maxHeartbeats 4000000 in
theorem f37 (u:U) (hu:u.Short) (i:Idd):Pure G Tryz.prog 37 [.agg u.cs,.agg i.cs] (takAV u i):=by
 have X:=s54X G u hu
 have V:=f69 G i u hu.1
 have Z:=f70 G i u hu.1
 simp only[Idd.cs]at V Z
 unfold takAV remX
 have I:=U.cs_len (fnd i u)
 have J:(fnd i u).cs.take 8=(fnd i u).cs:=take_of_length_le (by omega)
 have ac:=U.cs_len (U.cut i u)
 have ad:(U.cut i u).cs.take 8=(U.cut i u).cs:=take_of_length_le (by omega)
 refine Pure.wL c37 λR N=>?_
 unfold s37 r37
 cases T:stP u with
 |false=>
  rw[T]at X
  simp only[T,if_true,ite_true]at N
  (repeat' (first|(with_reducible refine aa X ?_)|simp only[EVz,seval,↓reduceIte,EV6,EV7,D]|simp only[EVz,seval,↓reduceIte,EV6,EV7]|(with_reducible intro O F;(try(have E:=F;simp only[EVK]at E;first|(have D:=AI E D)|(have D:=E))))))
  all_goals exact N _ _ (LeRep.tup (.cons po (.cons po (.cons (LeRep.refl _) .nil))))
 |true=>
 rw[T]at X
 cases h2:hasP i u with
 |false=>
  rw[h2]at V
  have M:i∉u.ids:=by simpa[hasP]using h2
  simp only[T,M,not_false_eq_true,if_true,ite_true,Bool.true_eq_false,if_false,ite_false]at N
  (repeat' (first|(with_reducible first|refine aa X ?_|refine aa V ?_)|simp only[EVz,seval,↓reduceIte,EV6,EV7,I,J,D]|simp only[EVz,seval,↓reduceIte,EV6,EV7,I,J]|(with_reducible intro O F;(try(have E:=F;simp only[EVK]at E;first|(have D:=AI E D)|(have D:=E))))))
  all_goals exact N _ _ (LeRep.tup (.cons po (.cons po (.cons (LeRep.refl _) .nil))))
 |true=>
 rw[h2]at V
 have M:i∈u.ids:=by simpa[hasP]using h2
 by_cases h3:u.id=i
 ·have Y:decide (u.id=i)=true:=decide_eq_true h3
  simp only[T,M,not_true_eq_false,h3,if_true,ite_true,Bool.true_eq_false,if_false,ite_false]at N
  (repeat' (first|(with_reducible first|refine aa X ?_|refine aa V ?_)|simp only[EVz,seval,↓reduceIte,EV6,EV7,I,J,gv,Y,D]|simp only[EVz,seval,↓reduceIte,EV6,EV7,I,J,gv,Y]|(with_reducible intro O F;(try(have E:=F;simp only[EVK]at E;first|(have D:=AI E D)|(have D:=E))))))
  all_goals exact N _ _ (LeRep.tup (.cons po (.cons po (.cons (LeRep.refl _) .nil))))
 ·have Y:decide (u.id=i)=false:=decide_eq_false h3
  simp only[T,M,not_true_eq_false,h3,if_true,ite_true,Bool.true_eq_false,if_false,ite_false]at N
  (repeat' (first|(with_reducible first|refine aa X ?_|refine aa V ?_|refine aa Z ?_)|simp only[EVz,seval,↓reduceIte,EV6,EV7,I,J,ac,ad,gv,Y,D]|simp only[EVz,seval,↓reduceIte,EV6,EV7,I,J,ac,ad,gv,Y]|(with_reducible intro O F;(try(have E:=F;simp only[EVK]at E;first|(have D:=AI E D)|(have D:=E))))|(with_reducible first|refine ae ?_ ?_|refine af ?_)))
  all_goals exact N _ _ (LeRep.refl _)
end
end Go.Av
