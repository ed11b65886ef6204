/-
  ENACT, M21: lists of IDs looked through; what a unit takes; how deep.
-/
import Derived.Test.YtppjieiiibgagaaGreatDoorWXM2toXM5
import Derived.Test.YtppjieiiibgagaaGreatDoorWXM11toXM16
import Derived.Test.YtppjieiiibgagaaGreatDoorWXAv34toXM15
import Derived.Test.YtppjieiiibgagaaGreatDoorWXM17toXM10
import Derived.Test.YtppjieiiibgagaaGreatDoorWXE11toXL27
import Derived.Test.YtppjieiiibgagaaGreatDoorWXM9toXOpE
set_option linter.all false
namespace Go.Av
open Go Go.RowKit Go.Proofs List
section
variable (G:Glob)
def f309k (σ:Store) (f:Value) (p:Idd->Bool) (l:List Idd) (N:l.length<9000000000000000000) (I:∀x∈l,cu G Tryz.prog f [.agg x.cs] σ λr σ'=>r= .bool (p x)/\σ'=σ):
  aj G Tryz.prog 309 [.lst 3 (l.map Idd.cs),.sc f] σ λr σ'=>r= .i (idxF p 0 l)/\σ'=σ:=by
 refine tu c309 λR F=>?_
 unfold s309 r309
 simp only[Idd.cs]at I
 (repeat' (first|(with_reducible (refine ae (λh=>?_) λh=>?_)<;>(try simp only[DZ]at h))|simp only[EV,seval,E.yes,E.le0,E.lt',E.get,E.row,M]|simp only[EV,seval,J]|simp only[EV,seval]|(refine ak E () ?_ (a0 _ _))|(refine ap l (λi r (c:Unit)=>idxF p 0 l=idxF p i r) (λi c=>[(0,.lst 3 (l.map Idd.cs)),(1,.sc f),(7,.i l.length),(8,.i i)]) (λ_ _=>σ) () rfl (a0 _ _) (by omega) (λi x r c D E M=>?_) (λc D J=>?_))|(refine eI (I _ E.mem) ?_)))
 ·refine F _ _ (.inl (.inl ?_)) (SubN.refl _)
  rw[D,idxF,if_pos h]
 ·rw[D,idxF,h];rfl
 ·refine F _ _ (.inl (.inl ?_)) (SubN.refl _)
  rw[D];rfl
def f212k (σ:Store) (f:Value) (p:Idd->Bool) (l:List Idd) (I:l.length<9000000000000000000) (F:∀x∈l,cu G Tryz.prog f [.agg x.cs] σ λr σ'=>r= .bool (p x)/\σ'=σ):
  aj G Tryz.prog 212 [.lst 3 (l.map Idd.cs),.sc f] σ λr σ'=>r= .bool (l.any p)/\σ'=σ:=by
 refine tu c212 λR E=>?_
 unfold s212 r212
 have D:=f309k G σ f p l I F
 (repeat' (first|simp only[EV,seval]|(refine eI D.v ?_)))
 exact E _ _ (.inl (.inl (congrArg AV.bool (eE p l 0)))) (SubN.refl _)
def f310 (l:List Idd) (k:Idd) (M:l.length<9000000000000000000):Pure G Tryz.prog 310 [.lst 3 (l.map Idd.cs),.agg k.cs] (.i (idxF (λx=>decide (k=x)) 0 l)):=by
 refine Pure.w c310 λR F=>?_;unfold s310 r310;(repeat' (first|(with_reducible (refine ae (λh=>?_) λh=>?_)<;>(try simp only[DZ]at h))|simp only[EV,seval,am,E.yes,E.le0,E.lt',E.get,E.row,J]|simp only[EV,seval,am,I]|simp only[EV,seval,am]|(refine ak E () ?_ (a0 _ _))|(refine ap (l) (λi r (c:Unit)=>idxF (λx=>decide (k=x)) 0 l=idxF (λx=>decide (k=x)) i r) (λi c=>[(0,.lst 3 (l.map Idd.cs)),(3,.ref k.cs),(7,.i l.length),(8,.i i)]) (λ_ _=>[]) () (by rfl) (a0 _ _) (by omega) (λi x r c D E J=>?_) (λc D I=>?_))))
 ·refine RET.eq F ?_;rw[D,idxF,if_pos (decide_eq_true h)]
 ·rw[D,idxF,if_neg (by simpa using h)]
 ·refine RET.eq F ?_;rw[D];rfl
def f214 (l:List Idd) (k:Idd) (I:l.length<9000000000000000000):Pure G Tryz.prog 214 [.lst 3 (l.map Idd.cs),.agg k.cs] (.bool (decide (k∈l))):=by
 have D:=f310 G l k I;simp only[Idd.cs]at D;refine Pure.w c214 λR E=>?_;unfold s214 r214;(repeat' (first|(with_reducible refine ab D ?_)|simp only[EV,seval]));refine RET.eq E (congrArg AV.bool ?_);rw[eE,Bool.eq_iff_iff,any_eq_true,decide_eq_true_eq];constructor
 ·rintro⟨x,J,F⟩;rw[of_decide_eq_true F];exact J
 ·intro h;exact⟨k,h,decide_eq_true rfl⟩
def f213 (b:Nat) (l:List Idd) (k:Idd) (F:l.length<9000000000000000000):aj G Tryz.prog 213 [.agg k.cs,.p b] [(b,.cells 100 [.lst 3 (l.map Idd.cs)])] λr σ'=>r= .bool (decide (k∈l))/\σ'=[(b,.cells 100 [.lst 3 (l.map Idd.cs)])]:=by
 have D:=f214 G l k F;simp only[Idd.cs]at D;refine tu c213 λR E=>?_;unfold s213 r213;(repeat' (first|(with_reducible refine ab D ?_)|simp only[EV,seval]));exact E _ _ (rH _) (SubN.refl _)
def f305 (b:Nat) (x k:U):aj G Tryz.prog 305 [.agg k.cs,.p b] [(b,.cells 27 x.cs)] λr σ'=>r= .bool (decide (k.kind=x.kind)&&decide (k.label=x.label))/\σ'=[(b,.cells 27 x.cs)]:=by
 refine tu c305 λR D=>?_;unfold s305 r305;rw[b0 x]at D ⊢;(repeat' (first|(with_reducible (refine ai (λh=>?_) λh=>?_)<;>(try simp only[DZ]at h))|simp only[EV,seval]))
 all_goals(refine D _ _ (.inl (.inl (congrArg AV.bool ?_))) (SubN.refl _);simp[*])
variable (hG:GOk G)
include hG
def f208 (p x:U) (V:p.kids.length<1000000):Pure G Tryz.prog 208 [.agg p.cs,.agg x.cs] (.i (bB p p.kids x)):=by
 have N:=f156 G hG p.kind x.kind;refine Pure.w c208 λR J=>?_;unfold s208 r208;unfold bB bW at J;rw[b0 p,b0 x]
 cases O:nests p.kind x.kind with
 |false=>
  rw[O]at N J;(repeat' (first|(with_reducible refine ab N ?_)|simp only[EV,seval,E]|simp only[EV,seval]|(with_reducible intro I D;(try(have F:=D;simp only[EVK]at F;(have E:=F))))))
  all_goals exact RQ J
 |true=>
  rw[O]at N J;simp only[Bool.true_eq_false,if_false]at J;(repeat' (first|(with_reducible refine ab N ?_)|simp only[EV,seval,E]|simp only[EV,seval]|(with_reducible intro I D;(try(have F:=D;simp only[EVK]at F;(have E:=F))))));have M:=f289k G [(I,.cells 27 x.cs)] (.func (.func 305) #[] #[.p I]) (λk=>decide (k.kind=x.kind)&&decide (k.label=x.label)) p.kids (by omega)
   (λy X=>⟨_,_,_,rfl,f305 G I x y⟩)
  rw[b0 x]at M
  cases T:(p.kids.any λk=>decide (k.kind=x.kind)&&decide (k.label=x.label))with
  |false=>
   rw[T]at M J;(repeat' (first|simp only[EV,seval,E]|(refine eI M.v ?_)))
   all_goals exact RQ J
  |true=>
   rw[T]at M J;(repeat' (first|simp only[EV,seval,E]|(refine eI M.v ?_)))
   all_goals exact RQ J
omit hG
def f209 (u:U) (q:Idd) (x:U) (E:u.Tame) (F:x.Tame):Pure G Tryz.prog 209 [.agg u.cs,.agg q.cs,.agg x.cs] (.bool (decide (8<(((anc q u).length:Int)+1+x.dep)))):=by
 have D:=f288 G q u E;have J:=f194 G x F;simp only[Idd.cs]at D
 have O:(anc q u).length<=u.flat.length:=by
  unfold anc;rw[length_reverse,length_map,length_dropLast];have:=ee q u;omega
 have T:=E.2;have I:=x.dep_cnt;have V:=F.2;have X:=x.dep_ge;unfold U.cnt at I;have N:IntKind.i64.wrap (((anc q u).length:Int)+1)=((anc q u).length:Int)+1:=av (by omega) (by omega);have w2:IntKind.i64.wrap (((anc q u).length:Int)+1+x.dep)=((anc q u).length:Int)+1+x.dep:=av (by omega) (by omega);refine Pure.w c209 λR M=>?_;unfold s209 r209;(repeat' (first|(with_reducible first|refine ab D ?_|refine ab J ?_)|simp only[EV,seval,N,w2]))
 all_goals exact RQ M
end
def dz:Option (Idd×Nat)->AV
 |some (q,k)=>.tup [.agg [.int .i64 q.act,.int .i64 q.item,.int .i64 q.n,.int .i64 k],.int .i64 0]
 |none=>.tup [.agg [.int .i64 0,.int .i64 0,.int .i64 0,.int .i64 0],.int .i64 9]
def cX:(Idd×Nat) ⊕ Int->AV
 | .inl (q,k)=>.tup [.agg [.int .i64 q.act,.int .i64 q.item,.int .i64 q.n],.int .i64 k,.int .i64 0]
 | .inr e=>.tup [.agg [.int .i64 0,.int .i64 0,.int .i64 0],.int .i64 0,.int .i64 e]
def dest (u:U) (x:Itm):(Idd×Nat) ⊕ Int:=
 if (one u x.at_).2≠0 then .inr (one u x.at_).2
 else if x.kind=0 then (match spot u (one u x.at_).1 x.wh with|none=>.inr 9|some q=>.inl q)
 else if (one u x.to_).2≠0 then .inr (one u x.to_).2
 else match eu u (one u x.at_).1 (one u x.to_).1 x.wh with|none=>.inr 9|some q=>.inl q
def gw {i:Idd} {u:U} (hi:i∈u.ids):(U.way i u).isEmpty=false:=by
 have:=bQ.2 hi
 cases h:U.way i u<;>simp_all
section
variable (G:Glob)
def f377 (u:U) (i:Idd) (f:Value) (m:Int) (O:u.Short) (hi:i∈u.ids) (N:fT G Tryz.prog f [.i (fnd i u).kids.length] (.i m)):
  Pure G Tryz.prog 377 [.agg u.cs,.agg i.cs,.sc f] (.tup [.agg [.i i.act,.i i.item,.i i.n,.i m],.i 0]):=by
 have F:=f27 G i u O
 unfold iL at F
 rw[gw hi,if_neg (by simp)]at F
 simp only[Idd.cs]at F
 rw[b0 (fnd i u)]at F
 refine Pure.w c377 λR M=>?_
 unfold s377 r377
 (repeat' (first|(with_reducible refine ab F ?_)|simp only[EV,seval,D]|simp only[EV,seval]|(with_reducible intro J I;(try(have E:=I;simp only[EVK]at E;first|(have D:=AI E D)|(have D:=E))))|(refine aP N ?_)))
 all_goals exact RQ M
def f378 (n:Int):Pure G Tryz.prog 378 [.i n] (.i 0):=by
 refine Pure.w c378 λR D=>?_;unfold s378 r378;(repeat' (simp only[EV,seval]));(all_goals((exact RET.eq D rfl)))
def f380 (n:Int):Pure G Tryz.prog 380 [.i n] (.i n):=by
 refine Pure.w c380 λR D=>?_;unfold s380 r380;(repeat' (simp only[EV,seval]));(all_goals((exact RET.eq D rfl)))
def f376 (u:U) (i:Idd) (N:u.Short) (hi:i∈u.ids):Pure G Tryz.prog 376 [.agg u.cs,.agg i.cs] (dz (spot u i 0)):=by
 have I:=f377 G u i _ 0 N hi (f378 G _).v;simp only[Idd.cs]at I;refine Pure.w c376 λR M=>?_;unfold s376 r376;(repeat' (first|(with_reducible refine ab I ?_)|simp only[EV,seval,F]|simp only[EV,seval]|(with_reducible intro J D;(try(have E:=D;simp only[EVK]at E;(have F:=E))))))
 all_goals exact RQ M
def f379 (u:U) (i:Idd) (N:u.Short) (hi:i∈u.ids):Pure G Tryz.prog 379 [.agg u.cs,.agg i.cs] (dz (spot u i 1)):=by
 have I:=f377 G u i _ _ N hi (f380 G _).v;simp only[Idd.cs]at I;refine Pure.w c379 λR M=>?_;unfold s379 r379;(repeat' (first|(with_reducible refine ab I ?_)|simp only[EV,seval,F]|simp only[EV,seval]|(with_reducible intro J D;(try(have E:=D;simp only[EVK]at E;(have F:=E))))))
 all_goals exact RQ M
def f382 (u:U) (i:Idd) (b:Nat) (Y:b<=1) (X:u.Short) (V:u.ids.Nodup) (T:∀q,aL i u=some q->q.2.2<1000000):
  Pure G Tryz.prog 382 [.agg u.cs,.agg i.cs,.i b] (dz ((aL i u).map λq=>(q.1.id,q.2.2+b))):=by
 have I:=f135 G i u X V
 simp only[Idd.cs]at I
 unfold jK at I
 refine Pure.w c382 λR J=>?_
 unfold s382 r382
 rcases O:aL i u with _|⟨p,d,k⟩
 ·rw[O]at I J
  (repeat' (first|(with_reducible refine ab I ?_)|simp only[EV,seval,D]|simp only[EV,seval]|(with_reducible intro M F;(try(have E:=F;simp only[EVK]at E;first|(have D:=AI E D)|(have D:=E))))))
  all_goals exact RQ J
 ·have N:=T _ O
  rw[O]at I J;simp only at N
  have e:IntKind.i64.wrap ((k:Int)+(b:Int))=((k+b:Nat):Int):=by rw[av (by omega) (by omega)];omega
  (repeat' (first|(with_reducible refine ab I ?_)|simp only[EV,seval,e,D]|simp only[EV,seval,e]|(with_reducible intro M F;(try(have E:=F;simp only[EVK]at E;first|(have D:=AI E D)|(have D:=E))))))
  all_goals exact RQ J
def f381 (u:U) (i:Idd) (T:u.Short) (O:u.ids.Nodup) (N:∀q,aL i u=some q->q.2.2<1000000):Pure G Tryz.prog 381 [.agg u.cs,.agg i.cs] (dz (spot u i 2)):=by
 have F:=f382 G u i 1 (by omega) T O N;simp only[Idd.cs]at F
 have e:spot u i 2=(aL i u).map λq=>(q.1.id,q.2.2+1):=by unfold spot;simp
 rw[e];obtain⟨z,V⟩:∃z,(aL i u).map (λq=>(q.1.id,q.2.2+1))=z:=⟨_,rfl⟩;rw[V]at F ⊢;refine Pure.w c381 λR J=>?_;unfold s381 r381;unfold dz at F J
 rcases z with _|⟨q,k⟩<;>(repeat' (first|(with_reducible refine ab F ?_)|simp only[EV,seval,I]|simp only[EV,seval]|(with_reducible intro M D;(try(have E:=D;simp only[EVK]at E;(have I:=E))))))
 all_goals exact RQ J
def f383 (u:U) (i:Idd) (T:u.Short) (O:u.ids.Nodup) (N:∀q,aL i u=some q->q.2.2<1000000):Pure G Tryz.prog 383 [.agg u.cs,.agg i.cs] (dz (spot u i 3)):=by
 have F:=f382 G u i 0 (by omega) T O N;simp only[Idd.cs]at F
 have e:spot u i 3=(aL i u).map λq=>(q.1.id,q.2.2+0):=by unfold spot;simp
 rw[e];obtain⟨z,V⟩:∃z,(aL i u).map (λq=>(q.1.id,q.2.2+0))=z:=⟨_,rfl⟩;rw[V]at F ⊢;refine Pure.w c383 λR J=>?_;unfold s383 r383;unfold dz at F J
 rcases z with _|⟨q,k⟩<;>(repeat' (first|(with_reducible refine ab F ?_)|simp only[EV,seval,I]|simp only[EV,seval]|(with_reducible intro M D;(try(have E:=D;simp only[EVK]at E;(have I:=E))))))
 all_goals exact RQ J
def f347:Pure G Tryz.prog 347 [] (.agg [fnV 376,fnV 379,fnV 381,fnV 383]):=by
 refine Pure.w c347 λR I=>?_;unfold s347 r347;(repeat' (first|simp only[EV,seval]|(with_reducible intro F D;(try(have E:=D;simp only[EVK]at E;(have J:=E))))|(refine rt (e:=284) (by kernel_rfl) (by kernel_rfl) (by kernel_rfl) ?_)))
 all_goals exact RQ I
def leadV (wh:Int):Value:=.func (.func (if wh=0 then 376 else if wh=1 then 379 else if wh=2 then 381 else 383)) #[] #[]
def na (u:U) (i:Idd) (wh:Int) (J:0<=wh) (M:wh<=3) (D:u.Short) (hi:i∈u.ids) (F:u.ids.Nodup) (E:∀q,aL i u=some q->q.2.2<1000000):fT G Tryz.prog (leadV wh) [.agg u.cs,.agg i.cs] (dz (spot u i wh)):=by
 have I:wh=0\/wh=1\/wh=2\/wh=3:=by omega
 rcases I with rfl|rfl|rfl|rfl
 ·exact(f376 G u i D hi).v
 ·exact(f379 G u i D hi).v
 ·exact(f381 G u i D F E).v
 ·exact(f383 G u i D F E).v
def pr (w:Nat) (h:w<4):[fnV 376,fnV 379,fnV 381,fnV 383].getD w .any= .sc (leadV w):=by
 have D:w=0\/w=1\/w=2\/w=3:=by omega
 rcases D with rfl|rfl|rfl|rfl<;>rfl
end
end Go.Av
namespace Go.Av
open Go Go.RowKit List
def tJ {x:Nat×AObj} {κ σ:Store}:SubN (x::(κ++σ)) (κ++x::σ):=nm perm_middle.symm
def up {x y:Nat×AObj} {κ σ:Store}:SubN (x::y::(κ++σ)) (κ++x::y::σ):=SubN.trans (SubN.cons tJ _) tJ
def su {x y:Nat×AObj} {κ σ:Store}:SubN (y::x::(κ++σ)) (κ++x::y::σ):=SubN.trans (nm (List.Perm.swap _ _ _)) up
def SubN.push {x y:Nat×AObj} {l:Store}:SubN ((x::l)++[y]) (x::y::l):=by
 rw[cons_append];exact SubN.cons (nm (perm_append_comm (l₁:=l) (l₂:=[y]))) _
def uH {x y:Nat×AObj} {l:Store}:SubN (x::y::l) ((x::l)++[y]):=by
 rw[cons_append];exact SubN.cons (nm (perm_append_comm (l₁:=[y]) (l₂:=l))) _
def uq {x y:Nat×AObj} {κ σ:Store}:SubN ((x::(σ++κ))++[y]) (x::y::(κ++σ)):=
 SubN.trans (SubN.push) (SubN.cons (SubN.cons (nm perm_append_comm) _) _)
def uD {x y:Nat×AObj} {κ σ:Store}:SubN (x::y::(κ++σ)) ((x::(σ++κ))++[y]):=
 SubN.trans (SubN.cons (SubN.cons (nm perm_append_comm) _) _) uH
section
variable {G:Glob} {P:Program}
def aj.fr {k:FuncId} {args:List AV} {J:Store} {R R2:AV->Store->Prop} (σr:Store) (h:aj G P k args J R)
  (hk:∀r σ',R r σ'->(σ'++σr:Store).keys.Nodup->∃E,SubN E (σ'++σr)/\R2 r E):aj G P k args (J++σr) R2:=
 ⟨h.1,λρ w vs T O=>by
  rw[append_assoc]at T O
  refine(h.2 (σr++ρ) w vs T O).mono λe w' ⟨v,r,σ',Z,Y,V,N,F⟩=>?_
  have D:Sat G ((σ'++σr)++ρ) w':=by rwa [append_assoc]
  obtain⟨E,M,X⟩:=hk r σ' Y D.nodup_left
  rw[←append_assoc]at F
  exact⟨v,r,E,Z,X,D.subN M,(N.frame (λq I=>I)).trans (ra M.1 w'),Rep.sub (λq I=>by
   rcases mem_append.1 I with I|I
   ·exact mem_append.2 (.inl (M.1 q I))
   ·exact mem_append.2 (.inr I)) F⟩⟩
def cu.fr {f:Value} {args:List AV} {E:Store} {R R2:AV->Store->Prop} (σr:Store) (h:cu G P f args E R)
  (F:∀r σ',R r σ'->(σ'++σr:Store).keys.Nodup->∃D,SubN D (σ'++σr)/\R2 r D):cu G P f args (E++σr) R2:=by
 obtain⟨k,a,b,e,h⟩:=h
 exact⟨k,a,b,e,h.fr σr F⟩
def bq {f:Value} {args D:List AV} {σ:Store} {K:AV->Store->Prop} {t:Tag K} {R:AV->Store->Prop} (E σr:Store)
  (h:cu G P f D E R) (I:aE args D) (M:SubN (E++σr) σ) (J:∀r σ',R r σ'->(σ'++σr:Store).keys.Nodup->∃F,SubN F (σ'++σr)/\K r F):CALL G P f args σ K t:=
 bl (E++σr) [] (h.fr σr J) I (by rwa [append_nil]) (λr σ' h=>by rwa [append_nil])
end
end Go.Av
namespace Go.Av
open Go Go.RowKit Go.Proofs List
section
variable {G:Glob} {P:Program}
def keys_uniq {σ:Store} (h:σ.keys.Nodup) {b:Nat} {x y:AObj} (D:(b,x)∈σ) (E:(b,y)∈σ):x=y:=by
 induction σ with
 |nil=>cases D
 |cons p σ ih=>
  simp only[Store.keys,map_cons,nodup_cons]at h
  rcases mem_cons.1 D with hx'|hx'<;>rcases mem_cons.1 E with hy'|hy'
  ·rw[hx'.symm]at hy';injection hy' with _ e;exact e.symm
  ·exact absurd (mem_map.2 ⟨_,hy',by rw[←hx']⟩) h.1
  ·exact absurd (mem_map.2 ⟨_,hx',by rw[←hy']⟩) h.1
  ·exact ih h.2 hx' hy'
def aj.keepIn {k:FuncId} {args:List AV} {σ0 σ:Store} {v:AV} (h:aj G P k args σ0 λr σ'=>r=v/\σ'=σ0) (hs:Sub σ0 σ) (hn:σ.keys.Nodup->σ0.keys.Nodup):aj G P k args σ λr σ'=>r=v/\σ'=σ:=
 ⟨h.1,λρ w vs hS hA=>by
  have E:=hS.nodup_left
  obtain⟨σr,V⟩:∃σr,σr=σ.filter λp=>decide (p.1∉σ0.keys):=⟨_,rfl⟩
  have I:Sub (σ0++σr) σ:=λq D=>by
   rcases mem_append.1 D with D|D
   ·exact hs q D
   ·rw[V]at D;exact(mem_filter.1 D).1
  have T:Sub σ (σ0++σr):=λq D=>by
   by_cases hk:q.1∈σ0.keys
   ·obtain⟨p,O,e⟩:=mem_map.1 hk
    have:p=q:=Prod.ext e (keys_uniq E (b:=q.1) (by have:=hs p O;rw[←e];exact this) D)
    exact mem_append.2 (.inl (this ▸ O))
   ·exact mem_append.2 (.inr (by rw[V];exact mem_filter.2 ⟨D,by simpa using hk⟩))
  have N:(σ0++σr:Store).keys.Nodup:=by
   rw[aD]
   refine nodup_append.2 ⟨hn E,?_,λa ha b hb e=>?_⟩
   ·have:List.Sublist (Store.keys σr) (Store.keys σ):=by rw[V];exact List.Sublist.map _ filter_sublist
    exact this.nodup E
   ·obtain⟨p,O,rfl⟩:=mem_map.1 hb
    rw[V]at O
    have:=(mem_filter.1 O).2
    simp only[decide_not,Bool.not_eq_true',decide_eq_false_iff_not]at this
    exact this (e ▸ ha)
  have s1:SubN (σ0++σr) σ:=⟨I,λ_=>N⟩
  have s2:SubN σ (σ0++σr):=⟨T,λ_=>E⟩
  have M:=hS.subN s1
  rw[append_assoc]at M
  have X:RepL (σ0++(σr++ρ)) w args vs.toList:=RepL.sub (λq D=>by
   rw[←append_assoc]at D
   rcases mem_append.1 D with D|D
   ·exact mem_append.2 (.inl (I q D))
   ·exact mem_append.2 (.inr D)) hA
  refine(h.2 (σr++ρ) w vs M X).mono λe w' ⟨v',r,σ',he,⟨hv,Z⟩,aa,Y,F⟩=>?_
  subst Z hv
  have J:Sat G ((σ'++σr)++ρ) w':=by rwa [append_assoc]
  rw[←append_assoc]at F
  refine⟨v',r,σ,he,⟨rfl,rfl⟩,J.subN s2,?_,Rep.sub (λq D=>by
   rcases mem_append.1 D with D|D
   ·exact mem_append.2 (.inl (s2.1 q D))
   ·exact mem_append.2 (.inr D)) F⟩
  have e1:Ev σ w (σ'++σr) w:=ra s1.1 w
  have e2:Ev (σ'++σr) w (σ'++σr) w':=Y.frame (λq D=>D)
  exact e1.trans (e2.trans (ra s2.1 w'))⟩
def cu.keepIn {f:Value} {args:List AV} {σ0 σ:Store} {v:AV} (h:cu G P f args σ0 λr σ'=>r=v/\σ'=σ0) (D:SubN σ0 σ):cu G P f args σ λr σ'=>r=v/\σ'=σ:=by
 obtain⟨k,a,b,e,h⟩:=h;exact⟨k,a,b,e,h.keepIn D.1 D.2⟩
def uk {k:FuncId} {args ys:List AV} {x:AV} {σ:Store} {R1:Store->Prop} (hx:x.flat=true) (h:aj G P k args σ (λr σ'=>∃xs κ D,r= .tup [.agg xs,x]/\FrzL κ xs ys/\σ'=κ++D/\R1 D)):aj G P k args σ (λr σ'=>r= .tup [.agg ys,x]/\R1 σ'):=
 ⟨h.1,λρ w vs hS hA=>(h.2 ρ w vs hS hA).mono λe w' ⟨v,r,σ',he,⟨xs,κ,D,hr,hF,O,h1⟩,F,J,E⟩=>by
  subst hr O
  rw[append_assoc]at F E
  have I:Sub D (κ++D):=λq hq=>mem_append.2 (.inr hq)
  refine⟨v,.tup [.agg ys,x],D,he,⟨rfl,h1⟩,?_,J.trans (ra I _),?_⟩
  ·have:Sat G ((κ++D)++ρ) w':=by rwa [append_assoc]
   exact this.subN td
  ·simp only[Rep,RepL]at E ⊢
   obtain⟨X,rfl,u1,T,Y,M,u2,V,Z,N,e3⟩:=E
   obtain⟨ws,g1,g2,g3⟩:=M
   exact⟨X,rfl,u1,T,Y,⟨ws,g1,g2,FrzL.rep F hF g3⟩,u2,V,Z,tt hx N,e3⟩⟩
end
def jh {σ:Store}:Sub [] σ:=λ_ h=>by cases h
def fZ {a:Nat×AObj} {σ0 σ:Store} (E:a∈σ) (h:Sub σ0 σ):Sub (a::σ0) σ:=λq D=>by
 rcases mem_cons.1 D with rfl|D
 ·exact E
 ·exact h q D
def DoesV (G:Glob) (f:Value) (g:U->U) (σ:Store) (x:U):Prop:=cu G Tryz.prog f [.agg x.cs] σ λr σ'=>r= .agg (g x).cs/\σ'=σ
def pd {κ:Store}:∀xs:List AV,FrzL κ xs xs
 |[]=>trivial
 |x::xs=>⟨.inl rfl,pd xs⟩
def pC {u:U}:fnd u.id u=u:=aB (by rw[aN rfl];rfl)
def kid_par {q:Idd} {x:U} {a b:List U} (u:U) (F:u.ids.Nodup) (hq:q∈u.ids) (D:(fnd q u).kids=a++x::b):∃d,aL x.id u=some (fnd q u,d,a.length):=by
 revert D;refine rG (i:=q) (p:=λu=>(fnd q u).kids=a++x::b->∃d,aL x.id u=some (fnd q u,d,a.length)) ?_ ?_ u F hq
 ·intro u F h D
  have e:fnd q u=u:=by rw[←h];exact pC
  rw[e]at D ⊢;obtain⟨Z,n2⟩:=rB F;have Y:x.id∈U.idss u.kids:=dE (k:=x) (by rw[D];simp) (cS x);obtain⟨I,k,O,s⟩:=ej Z Y;have X:u.id≠x.id:=λe=>n2 (e ▸ Y);have ac:x∈u.flat:=ez u.flat_self (by rw[D];simp);have aa:k∈u.flat:=ez u.flat_self (by rw[s.eq];simp)
  have M:k=x:=by
   have E:x∈I++k::O:=by rw[←s.eq,D];simp
   rcases mem_append.1 E with E|E
   ·exact absurd (dE E (cS x)) s.left
   ·rcases mem_cons.1 E with E|E
    ·exact E.symm
    ·exact absurd (dE E (cS x)) s.right
  have ha:I.length=a.length:=by
   have e2:I++k::O=a++x::b:=by rw[←s.eq,D]
   have f1:firstAt (λk=>decide (k.id=x.id)) (I++k::O)=some I.length:=et (eZ s.left) (by rw[M];simp)
   have V:x.id∉U.idss a:=by
    have:(U.idss (a++x::b)).Nodup:=by rw[←D];exact Z
    rw[pt]at this;intro hx;exact(nodup_append.1 this).2.2 x.id hx x.id (dE (k:=x) (by simp) (cS x)) rfl
   have f2:firstAt (λk=>decide (k.id=x.id)) (a++x::b)=some a.length:=et (eZ V) (by simp);rw[e2,f2]at f1
   injection f1 with f1
   exact f1.symm
  exact⟨0,by rw[ga X s (by rw[M]),ha]⟩
 ·intro u I k O F h s ih D;rw[s.fnd F s.mem]at D ⊢;obtain⟨d,J⟩:=ih D
  have T:k.id≠x.id:=λe=>by rw[bT e]at J;cases J
  have N:x.id∈k.ids:=by
   have:U.way x.id k≠[]:=λe=>by unfold aL at J;rw[e]at J;cases J
   exact bQ.1 this
  have s':=s.other (rB F).1 N;exact⟨d+1,by rw[fq (Split.ne F s N) s' T,J];rfl⟩
def kD {j:Idd} {f:U->U} (u:U) (D:u.ids.Nodup) (O:j∈u.ids) (E:∀y,(f y).id=y.id):fnd j (U.wth j f u)=f (fnd j u):=by
 refine rG (i:=j) (p:=λu=>fnd j (U.wth j f u)=f (fnd j u)) ?_ ?_ u D O
 ·intro u D h
  have e:fnd j u=u:=by rw[←h];exact pC
  rw[aZ h,e];exact aB (by rw[aN (by rw[E];exact h)];rfl)
 ·intro u a k b D h s ih;rw[s.fnd D s.mem,←ih,s.wth h];have T:(U.wth j f k).id=k.id:=wth_id E k
  have F:U.way j (U.wth j f k)≠[]:=by
   rw[bQ];obtain⟨l,r,V,M⟩:=iw (f:=f) k s.nd s.mem;rw[M];have:=cS (f (fnd j k));rw[E,(cr k s.nd s.mem).1]at this;simp[this]
  have N:U.ways j a=[]:=(jM a).2 s.left;unfold fnd;rw[rJ,if_neg h];simp only;rw[gP,N,rC];have J:orW [] (orW (U.way j (U.wth j f k)) (U.ways j b))=orW (U.way j (U.wth j f k)) (U.ways j b):=rfl;rw[J,orW_ne F,pv F]
  cases I:U.way j (U.wth j f k)with
  |nil=>exact absurd I F
  |cons y r=>simp[getLastD_eq_getLast?,getLast?_cons]
def kR {j:Idd} {f:U->U} {u:U} (F:u.ids.Nodup) (D:j∈u.ids) (J:∀y,(f y).id=y.id):j∈(U.wth j f u).ids:=by
 obtain⟨l,r,_,I⟩:=iw (f:=f) u F D;have E:=cS (f (fnd j u));rw[J,(cr u F D).1]at E;rw[I];simp[E]
def pe {r:U} (N:r.ids.Nodup) {q:Idd} (M:q∈r.ids) {k:Nat} {x:U} (I:(U.wth q (λy=>{y with kids:=aH y.kids k x}) r).ids.Nodup):
  without x.id (U.wth q (λy=>{y with kids:=aH y.kids k x}) r)=r/\fnd x.id (U.wth q (λy=>{y with kids:=aH y.kids k x}) r)=x/\x.id∈(U.wth q (λy=>{y with kids:=aH y.kids k x}) r).ids:=by
 have X:=kD (f:=λy=>{y with kids:=aH y.kids k x}) r N M (λ_=>rfl)
 obtain⟨v,E⟩:∃v,U.wth q (λy=>{y with kids:=aH y.kids k x}) r=v:=⟨_,rfl⟩
 have F:q∈v.ids:=E ▸ kR N M (λ_=>rfl)
 have D:(fnd q v).kids=(fnd q r).kids.take k++x::(fnd q r).kids.drop k:=by rw[←E,X];rfl
 rw[E]at I ⊢
 obtain⟨d,V⟩:=kid_par v I F D
 have O:(fnd q v).id=q:=(cr v I F).1
 have J:x∈v.flat:=ez (aJ v I F) (by rw[D];simp)
 refine⟨?_,fnd_here I J,mem_map.2 ⟨x,J,rfl⟩⟩
 unfold without
 rw[V]
 simp only
 rw[O,←E,kF (f:=λy=>{y with kids:=aH y.kids k x}) (g:=λy=>{y with kids:=aG y.kids ((fnd q r).kids.take k).length}) r N M (λy Y=>Y)]
 refine jl r N M ?_
 simp only
 have T:aH (fnd q r).kids k x=(fnd q r).kids.take k++x::(fnd q r).kids.drop k:=rfl
 rw[T,bc,take_append_drop]
 cases fnd q r;rfl
def take_put {u own:U} {i:Idd} {d j:Nat} (E:u.ids.Nodup) (I:aL i u=some (own,d,j)) (D:Par i u own d j):
  U.wth own.id (λy=>{y with kids:=aH y.kids j (fnd i u)}) (without i u)=u/\fnd own.id (without i u)={own with kids:=aG own.kids j}/\own.id∈(without i u).ids:=by
 obtain⟨a,x,b,s,T,M,N⟩:=D.split
 have F:fnd i u=x:=aB N
 subst M
 have J:without i u=U.wth own.id (λy=>{y with kids:=aG y.kids a.length}) u:=by unfold without;rw[I]
 rw[J,F]
 refine⟨?_,?_,?_⟩
 ·rw[kF (f:=λy=>{y with kids:=aG y.kids a.length}) (g:=λy=>{y with kids:=aH y.kids a.length x}) u E D.mem (λy O=>O)]
  refine jl u E D.mem ?_;simp only;rw[D.fnd,s.eq,bc,kf,←s.eq]
  cases own;rfl
 ·rw[kD (f:=λy=>{y with kids:=aG y.kids a.length}) u E D.mem (λ_=>rfl),D.fnd]
 ·exact kR E D.mem (λ_=>rfl)
def stP (u:U):Bool:=bS u&& !((if u.kind=0 then u.ids.drop 1 else u.ids).any λx=>decide (x=zId))
def lev (u:U) (q:Idd):Int:=((U.way q u).length:Int)-1
def fitsP (u:U) (q:Idd) (k:Int) (x:U):Int:=
 if stP u=false\/stP x=false\/x.kind=0 then 1
 else if q∉u.ids then 4
 else if nests (fnd q u).kind x.kind=false then 9
 else if k<0\/((fnd q u).kids.length:Int)<k then 3
 else if bW (fnd q u).kids x.kind x.label=true then 10
 else if 64<=(fnd q u).kids.length\/8<lev u q+1+x.dep\/1024<u.cnt+x.cnt then 6
 else if x.ids.any (λy=>decide (y∈u.ids))=true then 5 else 0
def insT (u:U) (q:Idd) (k:Int) (x:U):U×Int:=
 if fitsP u q k x≠0 then (noU,fitsP u q k x)else (U.wth q (λy=>{y with kids:=aH y.kids k.toNat x}) u,0)
def remT (u:U) (i:Idd):U×Int:=
 if stP u=false then (noU,1)else if i∉u.ids then (noU,4)else if u.id=i then (noU,9)else (without i u,0)
def movT (u:U) (i q:Idd) (k:Int):U×Int:=
 if stP u=false then (noU,1)else if i∉u.ids\/q∉u.ids then (noU,4)
 else if i=u.id\/q∈(fnd i u).ids\/nests (fnd q u).kind (fnd i u).kind=false then (noU,9)
 else if k<0\/((fnd q (without i u)).kids.length:Int)<k then (noU,3)
 else if bW (fnd q (without i u)).kids (fnd i u).kind (fnd i u).label=true then (noU,10)
 else if 64<=(fnd q (without i u)).kids.length\/8<lev (without i u) q+1+(fnd i u).dep then (noU,6)
 else (U.wth q (λy=>{y with kids:=aH y.kids k.toNat (fnd i u)}) (without i u),0)
def oe (u:U) (i:Idd) (s:List UInt8):Bool:=match aL i u with
 |some (p,_,_)=>bW p.kids (fnd i u).kind s
 |none=>false
def relT (u:U) (i:Idd) (s:List UInt8):U×Int:=
 if stP u=false\/bA s=false then (noU,1)else if i∉u.ids then (noU,4)else if (fnd i u).kind=0 then (noU,9)
 else if (fnd i u).label=s\/oe u i s=true then (noU,10)else (U.wth i (λy=>{y with label:=s}) u,0)
def wrT (u:U) (i:Idd) (l:List Wd) (f:U->U):U×Int:=
 if stP u=false\/(l.any λw=>!bJ w.text)=true then (noU,1)else if i∉u.ids then (noU,4)else if (fnd i u).kind=0 then (noU,9)
 else if 256<l.length then (noU,6)else (U.wth i f u,0)
def jP {u:U} (h:Good u) (D:u.kind=0):stP u=true:=by
 unfold stP bS fP;simp only[Bool.and_eq_true,decide_eq_true_eq,Bool.or_eq_true,Bool.not_eq_true',any_eq_false,all_eq_true];have I:=h.root.1 D;refine⟨⟨h.node,by have:=h.dep;unfold U.dep;omega,by have:=h.cnt;unfold U.cnt;omega,.inr ⟨by rw[decide_eq_true I,decide_eq_true D],h.nd⟩⟩,?_⟩;rw[if_pos D];intro x F e;have E:=h.nd;rw[o5]at F E;simp only[drop_one,tail_cons]at F;rw[nodup_cons]at E;exact E.1 (I ▸ e ▸ F)
def ge {u:U} (h:Good u) (h0:u.kind=0) {i:Idd} (hi:i∈u.ids) (I:u.id≠i):stP (fnd i u)=true/\(fnd i u).kind≠0:=by
 have hz:=h.root.1 h0
 have E:zId∉(fnd i u).ids:=by
  intro O;rw[←hz]at O;obtain⟨y,F,e⟩:=(fp u h.nd (cS u) hi).2 O;rw[aN rfl,mem_singleton]at F;subst F;exact I e
 obtain⟨own,d,j,w1,w2,X⟩:=aU h.nd hi I;obtain⟨a,x,b,s,hx,hj,hl⟩:=X.split;have D:fnd i u=x:=aB hl
 have J:own∈u.flat:=by
  have:=aJ u h.nd X.mem;rw[X.fnd]at this;exact this
 have T:x.kind≠0:=kb (cY (h.node own J) x (by rw[s.eq];simp));have Y:x∈u.flat:=ez J (by rw[s.eq];simp);rw[D]at E ⊢;have M:∀y∈x.flat,y∈u.flat:=d6 Y;refine⟨?_,T⟩;unfold stP bS fP;simp only[Bool.and_eq_true,decide_eq_true_eq,Bool.or_eq_true,Bool.not_eq_true',any_eq_false,all_eq_true];have N:x.id≠zId:=λe=>E (e ▸ cS x)
 have V:x.ids.Nodup:=by have:=fnd_nd u h.nd hi;rwa [D]at this
 have hd:=(fI (f:=λy=>y) u h.nd hi).2;rw[D]at hd
 have hc:x.flat.length<=u.flat.length:=by
  obtain⟨l,r,Z,_⟩:=ol (f:=λy=>y) u h.nd hi;have:=congrArg List.length Z;simp only[U.all5,length_map,length_append,D]at this;omega
 refine⟨⟨λy F=>h.node y (M y F),by have:=h.dep;unfold U.dep;omega,by have:=h.cnt;unfold U.cnt;omega,.inr ⟨by rw[decide_eq_false N,decide_eq_false T],V⟩⟩,?_⟩;rw[if_neg T];intro y F e;exact E (e ▸ F)
end Go.Av
