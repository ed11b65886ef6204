/-
  UNDO, walks 4: a unit put in.
-/
import Derived.Test.YtnoakpkjccigoaaGreatDoorRXM26toXV3
import Derived.Test.YtnoakpkjccigoaaGreatDoorRXM28toXR3
import Derived.Test.YtnoakpkjccigoaaGreatDoorRXU8toXAv31
namespace Go.Av
open Go Go.RowKit Go.Proofs List
set_option linter.unusedSimpArgs false
set_option linter.unusedVariables false
section
variable (G:Glob)
theorem f205 (b:Nat) (u:U) (E:u.Short) (i:Idd):ag G Tryz.prog 205 [.agg i.cs,.sc (.pointer (some ⟨b,0,none⟩))] [(b,.cells 27 u.cs)] λr σ'=>r= .bool (hasP i u)/\σ'=[(b,.cells 27 u.cs)]:=by
 have D:=f113 G i u E
 simp only[Idd.cs]at D
 refine ag.w c205 ?_
 unfold s205 r205
 rw[U.cs_eq u]at D ⊢
 (repeat' (first|(with_reducible refine aa D ?_)|simp only[EVz,seval,↓reduceIte,EV6,EV7]|fail))
 all_goals exact RET.keep rfl (SubN.refl _)
theorem f204 (E D:Nat) (u x:U) (N:u.Short) (J:x.Short):ag G Tryz.prog 204 [.sc (.pointer (some ⟨E,0,none⟩)),.sc (.pointer (some ⟨D,0,none⟩))] [(E,.cells 27 x.cs),(D,.cells 27 u.cs)] λr σ'=>r= .bool (x.ids.any λy=>hasP y u)/\σ'=[(E,.cells 27 x.cs),(D,.cells 27 u.cs)]:=by
 have I:=f149 G x J.1
 have O:x.ids.length<100000000:=by unfold U.ids;rw[length_map];have:=J.1.2;omega
 have F:=f150k G [(D,.cells 27 u.cs)] (.func (.func 205) #[] #[.pointer (some ⟨D,0,none⟩)]) (λy=>hasP y u) x.ids (by omega)
   (λy T=>⟨_,_,_,rfl,f205 G D u N y⟩)
 refine ag.wn c204 λM=>?_
 unfold s204 r204
 rw[U.cs_eq u]at F ⊢
 rw[U.cs_eq x]at I ⊢
 (repeat' (first|(with_reducible refine aa I ?_)|simp only[EVz,seval,↓reduceIte,EV6,EV7]|(refine ce F.v (SubN.tail (SubN.refl _) _) ?_)|fail))
 all_goals exact RET.keep rfl (SubN.refl _)
theorem f207 (b:Nat) (t:Bool):ag G Tryz.prog 207 [.sc (.pointer (some ⟨b,0,none⟩))] [(b,.cells 4 [.bool t])] λr σ'=>r= .bool (!t)/\σ'=[(b,.cells 4 [.bool t])]:=by
 refine ag.w c207 ?_
 unfold s207 r207
 (repeat' (simp only[EVz,seval,↓reduceIte,EV6,EV7]))
 all_goals exact RET.keep rfl (SubN.refl _)
theorem f208 (hG:GOk G) (D E:Nat) (p x:U):ag G Tryz.prog 208 [.sc (.pointer (some ⟨D,0,none⟩)),.sc (.pointer (some ⟨E,0,none⟩))] [(D,.cells 27 p.cs),(E,.cells 27 x.cs)] λr σ'=>r= .bool (!pl p.kind x.kind)/\σ'=[(D,.cells 27 p.cs),(E,.cells 27 x.cs)]:=by
 have J:=f122 G hG p.kind x.kind
 refine ag.wn c208 λF=>?_
 have I:¬D=E:=by simp[Store.keys]at F;exact F
 have M:¬E=D:=λe=>I e.symm
 unfold s208 r208
 rw[U.cs_eq p,U.cs_eq x]
 (repeat' (first|(with_reducible refine aa J ?_)|simp only[EVz,seval,↓reduceIte,EV6,EV7,I,M]|fail))
 all_goals exact RET.keep rfl (SubN.refl _)
theorem f209 (D E:Nat) (k:Int) (p:U):ag G Tryz.prog 209 [.sc (.pointer (some ⟨D,0,none⟩)),.sc (.pointer (some ⟨E,0,none⟩))] [(D,.cells 3 [.int .i64 k]),(E,.cells 27 p.cs)] λr σ'=>r= .bool (decide (k<0)||decide ((p.kids.length:Int)<k))/\σ'=[(D,.cells 3 [.int .i64 k]),(E,.cells 27 p.cs)]:=by
 refine ag.wn c209 λF=>?_
 have I:¬D=E:=by simp[Store.keys]at F;exact F
 have J:¬E=D:=λe=>I e.symm
 unfold s209 r209
 rw[U.cs_eq p]
 (repeat' (first|(with_reducible (refine ai (λh=>?_) (λh=>?_))<;>(try simp only[DZ]at h))|simp only[EVz,seval,↓reduceIte,EV6,EV7,I,J]|fail))
 all_goals(refine RET.keep ?_ (SubN.refl _);first|(simp[*];done)|(simp[*];omega))
theorem f210 (D E:Nat) (p x:U) (M:p.kids.length<1000000):ag G Tryz.prog 210 [.sc (.pointer (some ⟨D,0,none⟩)),.sc (.pointer (some ⟨E,0,none⟩))] [(D,.cells 27 p.cs),(E,.cells 27 x.cs)] λr σ'=>r= .bool (pn p.kids x.kind x.label)/\σ'=[(D,.cells 27 p.cs),(E,.cells 27 x.cs)]:=by
 have J:=f128 G p.kids x.kind x.label M
 refine ag.wn c210 λF=>?_
 have I:¬D=E:=by simp[Store.keys]at F;exact F
 have N:¬E=D:=λe=>I e.symm
 unfold s210 r210
 rw[U.cs_eq p,U.cs_eq x]
 (repeat' (first|(with_reducible refine aa J ?_)|simp only[EVz,seval,↓reduceIte,EV6,EV7,I,N]|fail))
 all_goals exact RET.keep rfl (SubN.refl _)
set_option maxHeartbeats 4000000 in
theorem f206 (D F E I:Nat) (p u x:U) (q:Idd) (hu:u.Short) (ac:u.flat.length<=1000000) (hx:x.Short) (ad:x.flat.length<=1000000) (hp:p.kids.length<1000000):
  ag G Tryz.prog 206 [.sc (.pointer (some ⟨D,0,none⟩)),.sc (.pointer (some ⟨F,0,none⟩)),.sc (.pointer (some ⟨E,0,none⟩)),.sc (.pointer (some ⟨I,0,none⟩))]
   [(D,.cells 27 p.cs),(F,.cells 27 u.cs),(E,.cells 23 q.cs),(I,.cells 27 x.cs)]
   λr σ'=>r= .bool (decide (64<=(p.kids.length:Int))||(decide (8<((anc q u).length:Int)+1+x.dep)||decide (1024<u.cnt+x.cnt)))/\σ'=[(D,.cells 27 p.cs),(F,.cells 27 u.cs),(E,.cells 23 q.cs),(I,.cells 27 x.cs)]:=by
 have O:=f124 G q u hu
 have hD:=f125 G x hx.1
 have J:=f148 G u hu.1
 have M:=f148 G x hx.1
 simp only[Idd.cs]at O
 have h1:(anc q u).length<=u.flat.length:=by
  unfold anc
  rw[length_reverse,length_map,length_dropLast]
  have:=eF q u
  omega
 have h3:=x.dep_cnt
 have h5:=x.dep_ge
 unfold U.cnt at h3
 have w1:IntKind.i64.wrap (((anc q u).length:Int)+1)=((anc q u).length:Int)+1:=aA (by omega) (by omega)
 have w2:IntKind.i64.wrap (((anc q u).length:Int)+1+x.dep)=((anc q u).length:Int)+1+x.dep:=aA (by omega) (by omega)
 have w3:IntKind.i64.wrap (u.cnt+x.cnt)=u.cnt+x.cnt:=by unfold U.cnt;exact aA (by omega) (by omega)
 obtain⟨an,T⟩:∃an,(anc q u).length=an:=⟨_,rfl⟩
 rw[T]at O w1 w2 ⊢
 refine ag.wn c206 λN=>?_
 simp only[Store.keys,map_cons,map_nil,nodup_cons,mem_cons,not_mem_nil,or_false,not_or]at N
 obtain⟨⟨V,X,Y⟩,⟨Z,a5⟩,a6,_⟩:=N
 have b1:¬F=D:=λe=>V e.symm
 have b2:¬E=D:=λe=>X e.symm
 have b3:¬I=D:=λe=>Y e.symm
 have b4:¬E=F:=λe=>Z e.symm
 have b5:¬I=F:=λe=>a5 e.symm
 have b6:¬I=E:=λe=>a6 e.symm
 unfold s206 r206
 rw[U.cs_eq u]at O J ⊢
 rw[U.cs_eq x]at hD M ⊢
 rw[U.cs_eq p]
 (repeat' (first|(with_reducible (refine ai (λh=>?_) (λh=>?_))<;>(try simp only[DZ]at h))|(with_reducible first|refine aa O ?_|refine aa hD ?_|refine aa J ?_|refine aa M ?_)|simp only[EVz,seval,↓reduceIte,EV6,EV7,w1,w2,w3,V,X,Y,Z,a5,a6,b1,b2,b3,b4,b5,b6]|(with_reducible first|refine ae ?_ ?_|refine af ?_)|fail))
 all_goals(refine RET.keep (congrArg AV.bool ?_) (SubN.refl _);first|(rw[decide_eq_true (p:=(64:Int)<=_) (by omega)];rfl)|(rw[decide_eq_false (p:=(64:Int)<=_) (by omega),decide_eq_true (p:=(8:Int)<_) (by omega)];rfl)|(rw[decide_eq_false (p:=(64:Int)<=_) (by omega),decide_eq_false (p:=(8:Int)<_) (by omega)];rfl))
end
section
variable (G:Glob)
set_option maxHeartbeats 8000000 in
theorem f117 (hG:GOk G) (u:U) (ac:stP u=true) (hu:u.Short) (ad:u.flat.length<=1000000) (q:Idd) (k:Int) (x:U) (hx:x.Short) (ah:x.flat.length<=1000000):
  Pure G Tryz.prog 117 [.agg u.cs,.agg q.cs,.int .i64 k,.agg x.cs] (.int .i64 (en u q k x)):=by
 have O:=f111 G hG u hu
 have T:=f111 G hG x hx
 have Y:=cj G q u hu
 rw[ac]at O
 have al:=(fb hu q).1.kids
 have N:stP x=false\/x.kind=0->en u q k x=1:=λh=>by unfold en;rw[if_pos (.inr h)]
 have J:=λf1 f2 f3 f4 f5 f6=>oo u q k x f1 f2 f3 f4 f5 f6 ac
 obtain⟨sx,an⟩:∃b,stP x=b:=⟨_,rfl⟩
 rw[an]at T N J
 simp only[Idd.cs]at Y
 have c3:=λb=>f207 G b (hasP q u)
 have c4:=λa b=>f208 G hG a b (fnd q u) x
 have c5:=λa b=>f209 G a b k (fnd q u)
 have c6:=λa b=>f210 G a b (fnd q u) x (by omega)
 have c2:=λa b c d=>f206 G a b c d (fnd q u) u x q hu ad hx ah (by omega)
 have c1:=λa b=>f204 G a b u x hu hx
 generalize en u q k x=F at*
 obtain⟨P,hP⟩:∃P,fnd q u=P:=⟨_,rfl⟩
 rw[hP]at Y al c4 c5 c6 c2
 simp only[hP]at J
 rw[U.cs_eq P]at Y c4 c5 c6 c2
 rw[U.cs_eq u]at O Y c1 c2 ⊢
 rw[U.cs_eq x]at T c1 c2 c4 c6 ⊢
 simp only[Idd.cs]at c2
 refine Pure.w c117 λR Z=>?_
 unfold s117 r117
 cases sx with
 |false=>
  rw[N (.inl rfl)]at Z
  (repeat' (first|(with_reducible (first|refine ab (λh=>?_) (λh=>?_)|refine ai (λh=>?_) (λh=>?_)|refine aj (λh=>?_) (λh=>?_))<;>(try simp only[DZ]at h))|(with_reducible first|refine AI (by omega) ?_|refine aa O ?_|refine aa T ?_)|simp only[EVz,seval,↓reduceIte,EV6,EV7,D]|simp only[EVz,seval,↓reduceIte,EV6,EV7]|(with_reducible intro V I;(try(have E:=I;simp only[EVK]at E;first|(have D:=AI E D)|(have D:=E))))|(with_reducible first|refine ae ?_ ?_|refine af ?_)|(exfalso;omega)))
  all_goals exact RQ Z
 |true=>
  by_cases h0:x.kind=0
  ·rw[N (.inr h0)]at Z
   have X:decide (x.kind=0)=true:=decide_eq_true h0
   (repeat' (first|(with_reducible (first|refine ab (λh=>?_) (λh=>?_)|refine ai (λh=>?_) (λh=>?_)|refine aj (λh=>?_) (λh=>?_))<;>(try simp only[DZ]at h))|(with_reducible first|refine AI (by omega) ?_|refine aa O ?_|refine aa T ?_)|simp only[EVz,seval,↓reduceIte,EV6,EV7,X,D]|simp only[EVz,seval,↓reduceIte,EV6,EV7,X]|(with_reducible intro V I;(try(have E:=I;simp only[EVK]at E;first|(have D:=AI E D)|(have D:=E))))|(with_reducible first|refine ae ?_ ?_|refine af ?_)|(exfalso;omega)))
   all_goals exact RQ Z
  ·have J:=λf1 f2 f3 f4 f5 f6=>J f1 f2 f3 f4 f5 f6 rfl h0
   clear N
   have X:decide (x.kind=0)=false:=decide_eq_false h0
   (repeat' (first|(with_reducible (first|refine ab (λh=>?_) (λh=>?_)|refine ai (λh=>?_) (λh=>?_)|refine aj (λh=>?_) (λh=>?_))<;>(try simp only[DZ]at h))|(with_reducible first|refine AI (by omega) ?_|refine aa O ?_|refine aa T ?_|refine aa Y ?_)|simp only[EVz,seval,↓reduceIte,EV6,EV7,X,D]|simp only[EVz,seval,↓reduceIte,EV6,EV7,X]|(with_reducible intro V I;(try(have E:=I;simp only[EVK]at E;first|(have D:=AI E D)|(have D:=E))))|(with_reducible first|refine ae ?_ ?_|refine af ?_)|(refine⟨[[.sc _,.int .i64 _],[.sc _,.int .i64 _],[.sc _,.int .i64 _],[.sc _,.int .i64 _],[.sc _,.int .i64 _],[.sc _,.int .i64 _]],rfl,(by simp),rfl,?_⟩)|(exfalso;omega)))
   refine bG G (l:=[(_,!hasP q u,4),(_,!pl P.kind x.kind,9),(_,(decide (k<0)||decide ((P.kids.length:Int)<k)),3),(_,pn P.kids x.kind x.label,10),(_,(decide (64<=(P.kids.length:Int))||(decide (8<((anc q u).length:Int)+1+x.dep)||decide (1024<u.cnt+x.cnt))),6),(_,x.ids.any (λy=>hasP y u),5)]) rfl (by simp) (λy hy=>?_) ?_
   ·simp only[mem_cons,not_mem_nil,or_false]at hy
    rcases hy with rfl|rfl|rfl|rfl|rfl|rfl
    ·exact⟨_,(by refine⟨?_,λM=>?_⟩;(repeat(first|exact aM|(refine aD (by repeat(first|exact mem_cons_self|refine mem_cons_of_mem _ ?_)) ?_)));(simp only[Store.keys,map_cons,map_nil,nodup_cons,mem_cons,not_mem_nil,or_false,not_or,not_false_eq_true,true_and,nodup_nil,and_true,@eq_comm Nat]at M ⊢ <;>simp only[M,not_false_eq_true,and_self])),_,_,_,rfl,c3 _⟩
    ·exact⟨_,(by refine⟨?_,λM=>?_⟩;(repeat(first|exact aM|(refine aD (by repeat(first|exact mem_cons_self|refine mem_cons_of_mem _ ?_)) ?_)));(simp only[Store.keys,map_cons,map_nil,nodup_cons,mem_cons,not_mem_nil,or_false,not_or,not_false_eq_true,true_and,nodup_nil,and_true,@eq_comm Nat]at M ⊢ <;>simp only[M,not_false_eq_true,and_self])),_,_,_,rfl,c4 _ _⟩
    ·exact⟨_,(by refine⟨?_,λM=>?_⟩;(repeat(first|exact aM|(refine aD (by repeat(first|exact mem_cons_self|refine mem_cons_of_mem _ ?_)) ?_)));(simp only[Store.keys,map_cons,map_nil,nodup_cons,mem_cons,not_mem_nil,or_false,not_or,not_false_eq_true,true_and,nodup_nil,and_true,@eq_comm Nat]at M ⊢ <;>simp only[M,not_false_eq_true,and_self])),_,_,_,rfl,c5 _ _⟩
    ·exact⟨_,(by refine⟨?_,λM=>?_⟩;(repeat(first|exact aM|(refine aD (by repeat(first|exact mem_cons_self|refine mem_cons_of_mem _ ?_)) ?_)));(simp only[Store.keys,map_cons,map_nil,nodup_cons,mem_cons,not_mem_nil,or_false,not_or,not_false_eq_true,true_and,nodup_nil,and_true,@eq_comm Nat]at M ⊢ <;>simp only[M,not_false_eq_true,and_self])),_,_,_,rfl,c6 _ _⟩
    ·exact⟨_,(by refine⟨?_,λM=>?_⟩;(repeat(first|exact aM|(refine aD (by repeat(first|exact mem_cons_self|refine mem_cons_of_mem _ ?_)) ?_)));(simp only[Store.keys,map_cons,map_nil,nodup_cons,mem_cons,not_mem_nil,or_false,not_or,not_false_eq_true,true_and,nodup_nil,and_true,@eq_comm Nat]at M ⊢ <;>simp only[M,not_false_eq_true,and_self])),_,_,_,rfl,c2 _ _ _ _⟩
    ·exact⟨_,(by refine⟨?_,λM=>?_⟩;(repeat(first|exact aM|(refine aD (by repeat(first|exact mem_cons_self|refine mem_cons_of_mem _ ?_)) ?_)));(simp only[Store.keys,map_cons,map_nil,nodup_cons,mem_cons,not_mem_nil,or_false,not_or,not_false_eq_true,true_and,nodup_nil,and_true,@eq_comm Nat]at M ⊢ <;>simp only[M,not_false_eq_true,and_self])),_,_,_,rfl,c1 _ _⟩
   ·rw[J]
    (repeat' (first|(with_reducible (first|refine ab (λh=>?_) (λh=>?_)|refine ai (λh=>?_) (λh=>?_)|refine aj (λh=>?_) (λh=>?_))<;>(try simp only[DZ]at h))|(with_reducible refine AI (by omega) ?_)|simp only[EVz,seval,↓reduceIte,EV6,EV7,D]|simp only[EVz,seval,↓reduceIte,EV6,EV7]|(with_reducible intro V I;(try(have E:=I;simp only[EVK]at E;first|(have D:=AI E D)|(have D:=E))))|(with_reducible first|refine ae ?_ ?_|refine af ?_)|(exfalso;omega)))
    all_goals exact RQ Z
end
theorem SubN.ins4 {t a b c d:Nat×AObj} {κ:Store}:SubN ((κ++[t])++[a,b,c,d]) (t::a::b::c::d::κ):=by
 have e:(κ++[t])++[a,b,c,d]=κ++[t,a,b,c,d]:=by simp
 rw[e]
 exact SubN.perm (perm_append_comm (l₁:=κ) (l₂:=[t,a,b,c,d]))
theorem SubN.ins4' {t a b c d:Nat×AObj} {κ:Store}:SubN (a::b::c::d::κ) ((κ++[t])++[a,b,c,d]):=by
 have e:(κ++[t])++[a,b,c,d]=κ++[t,a,b,c,d]:=by simp
 rw[e]
 exact SubN.trans (SubN.tail (SubN.refl _) t) (SubN.perm (perm_append_comm (l₁:=[t,a,b,c,d]) (l₂:=κ)))
theorem SubN.back2 {a b c d:Nat×AObj} {κ:Store}:SubN (κ++[c,d]) (a::b::c::d::κ):=
 SubN.tail (SubN.tail (SubN.perm (perm_append_comm (l₁:=κ) (l₂:=[c,d]))) _) _
theorem SubN.back1 {a b c:Nat×AObj} {κ:Store}:SubN (κ++[c]) (a::b::c::κ):=
 SubN.tail (SubN.tail (SubN.perm (perm_append_comm (l₁:=κ) (l₂:=[c]))) _) _
theorem SubN.pull3 {a b c:Nat×AObj} {κ σ:Store}:SubN (a::b::c::(κ++σ)) (κ++a::b::c::σ):=SubN.pullL (l:=[a,b,c])
theorem SubN.del3 {a b c:Nat×AObj} {κ:Store}:SubN (κ++[a,b,c]) (a::b::c::κ):=by
 exact SubN.perm (perm_append_comm (l₁:=κ) (l₂:=[a,b,c]))
theorem SubN.del3' {a b c:Nat×AObj} {κ:Store}:SubN (a::b::c::κ) (κ++[a,b,c]):=SubN.perm (perm_append_comm (l₁:=[a,b,c]) (l₂:=κ))
section
variable (G:Glob)
theorem f119 (k:Int) (x:U):ag G Tryz.prog 119 [.int .i64 k,.agg x.cs] [] (λr σ=>∃a b,r= .sc (.func (.func 212) #[] #[.pointer (some ⟨a,0,none⟩),.pointer (some ⟨b,0,none⟩)])/\σ=[(b,.cells 27 x.cs),(a,.cells 3 [.int .i64 k])]):=by
 refine ag.w c119 ?_
 unfold s119 r119
 rw[U.cs_eq x]
 (repeat' (first|simp only[EVz,seval,↓reduceIte,EV6,EV7]|(with_reducible intro I E;(try(have D:=E;simp only[EVK]at D;first|(have F:=AI D F)|(have F:=D))))|fail))
 all_goals exact RET.mk (SubN.refl _) ⟨_,_,rfl,rfl⟩
set_option maxHeartbeats 4000000 in
theorem v212 (a b j:Nat) (y x:U) (hj:j<=x.kids.length) (hl:x.kids.length<1000000) (hy:y.Short):
  iV G (.func (.func 212) #[] #[.pointer (some ⟨a,0,none⟩),.pointer (some ⟨b,0,none⟩)]) (λz=>{z with kids:=l8 z.kids j y}) [(b,.cells 27 y.cs),(a,.cells 3 [.int .i64 j])] x:=by
 have N:=f116 G y hy
 have ad:=f203 G (x.kids.map U.cs) (dZ _) (by rw[length_map];omega)
 have ah:dL (x.kids.map U.cs) j y.cs=(l8 x.kids j y).map U.cs:=by unfold dL l8;rw[map_append,map_cons,map_take,map_drop]
 have M:=λv κ J bo=>f155 G (x.kids.map U.cs) v κ J j (by rw[length_map];exact hj) (by rw[length_map];exact hl) bo y.cs (U.cs_len y)
 rw[ah]at M
 have D:=U.cs_len y
 refine⟨_,_,_,rfl,?_⟩
 show ag G Tryz.prog 212 [.agg x.cs,.sc (.pointer (some ⟨a,0,none⟩)),.sc (.pointer (some ⟨b,0,none⟩))] _ _
 refine ag.freezeK (R1:=λσ'=>σ'=[(b,.cells 27 y.cs),(a,.cells 3 [.int .i64 j])]) ?_
 refine ag.wn c212 λE=>?_
 have q1:¬b=a:=by simp[Store.keys]at E;exact E
 have q2:¬a=b:=λe=>q1 e.symm
 unfold s212 r212
 obtain⟨ys,an⟩:∃ys,y.cs=ys:=⟨_,rfl⟩
 have T:=λv κ (J:bD 27 8 ((l8 x.kids j y).map U.cs) v κ)=>U.csv_frz (x:={x with kids:=l8 x.kids j y}) J
 rw[an]at N M D ⊢
 have X:ys.take 8=ys:=take_of_length_le (by omega)
 generalize (l8 x.kids j y).map U.cs=rows2 at*
 rw[U.cs_eq x]
 (repeat' (first|(with_reducible refine aa N ?_)|simp only[EVz,seval,↓reduceIte,EV6,EV7,q1,q2,D,X,length_map,F]|simp only[EVz,seval,↓reduceIte,EV6,EV7,q1,q2,D,X,length_map]|(with_reducible intro bd O;(try(have I:=O;simp only[EVK]at I;first|(have F:=AI I F)|(have F:=I))))|(with_reducible first|refine ae ?_ ?_|refine af ?_)|(refine aT [] ((_,_)::(_,_)::(_,_)::(_,_)::[]) ad.v (ax.rfl' _) (SubN.refl _) (λv κ J E=>⟨_,SubN.pull4,?_⟩);have M:=M v κ J;have hv:=J;obtain⟨aw,cap,rfl,_⟩:=hv;simp only[length_map]at J M)|(refine⟨[ys],rfl,(by intro r Z;simp only[mem_singleton]at Z;subst Z;exact D),(by simp),?_⟩)|(refine aT (κ++[(_,_)]) [(_,_),(_,_),(_,_),(_,_)] (M _).v (ax.rfl' _) SubN.ins4 (λr1 bh Z bb=>?_);obtain⟨Y,V,rfl⟩:=Z;have al:=V;obtain⟨ac,ba,rfl,be⟩:=al;refine⟨_,SubN.ins4',?_⟩)|fail))
 all_goals exact RET.mk' (σ':=Y++[(b,.cells 27 ys),(a,.cells 3 [.int .i64 j])]) SubN.back2 ⟨_,Y,_,rfl,T _ _ V,rfl,rfl⟩
set_option maxHeartbeats 4000000 in
theorem v201 (a j:Nat) (x:U) (hj:j<x.kids.length) (hl:x.kids.length<1000000):
  iV G (.func (.func 201) #[] #[.pointer (some ⟨a,0,none⟩)]) (λz=>{z with kids:=pm z.kids j}) [(a,.cells 3 [.int .i64 j])] x:=by
 have V:=f203 G (x.kids.map U.cs) (dZ _) (by rw[length_map];omega)
 have X:(x.kids.map U.cs).take j++(x.kids.map U.cs).drop (j+1)=(pm x.kids j).map U.cs:=by unfold pm;rw[map_append,map_take,map_drop]
 have I:=λv κ F=>f202 G (x.kids.map U.cs) v κ F j (by rw[length_map];exact hj) (by rw[length_map];exact hl)
 rw[X]at I
 have hw:IntKind.i64.wrap ((j:Int)+1)=((j+1:Nat):Int):=by rw[aA (by omega) (by omega)];omega
 refine⟨_,_,_,rfl,?_⟩
 show ag G Tryz.prog 201 [.agg x.cs,.sc (.pointer (some ⟨a,0,none⟩))] _ _
 refine ag.freezeK (R1:=λσ'=>σ'=[(a,.cells 3 [.int .i64 j])]) ?_
 refine ag.w c201 ?_
 unfold s201 r201
 have M:=λv κ (F:bD 27 8 ((pm x.kids j).map U.cs) v κ)=>U.csv_frz (x:={x with kids:=pm x.kids j}) F
 generalize (pm x.kids j).map U.cs=rows2 at*
 rw[U.cs_eq x]
 (repeat' (first|simp only[EVz,seval,↓reduceIte,EV6,EV7,hw,length_map,D]|simp only[EVz,seval,↓reduceIte,EV6,EV7,hw,length_map]|(with_reducible intro ah J;(try(have E:=J;simp only[EVK]at E;first|(have D:=AI E D)|(have D:=E))))|(with_reducible first|refine ae ?_ ?_|refine af ?_)|(refine aT [] ((_,_)::(_,_)::(_,_)::[]) V.v (ax.rfl' _) (SubN.refl _) (λv κ F al=>⟨_,SubN.pull3,?_⟩);have I:=I v κ F;have hv:=F;obtain⟨Z,cap,rfl,_⟩:=hv;simp only[length_map]at F I)|(refine aT κ [(_,_),(_,_),(_,_)] I.v (ax.rfl' _) SubN.del3 (λr1 O N ad=>?_);have Y:=N;obtain⟨T,ac,rfl,an⟩:=Y;refine⟨_,SubN.del3',?_⟩)|fail))
 all_goals exact RET.mk' (σ':=O++[(a,.cells 3 [.int .i64 j])]) SubN.back1 ⟨_,O,_,rfl,M _ _ N,rfl,rfl⟩
theorem f115 (u:U) (hs:u.Short) (E:u.ids.Nodup) (i:Idd) (hi:i∈u.ids) (T:u.id≠i) (Y:∀p∈u.flat,p.kids.length<=64):Pure G Tryz.prog 115 [.agg u.cs,.agg i.cs] (.agg (l7 i u).cs):=by
 obtain⟨p,d,j,e1,e2,M⟩:=bt E hi T
 have hp:p∈u.flat:=by have:=aP u E M.mem;rw[M.fnd]at this;exact this
 have ac:=Y p hp
 have X:j<p.kids.length:=by
  obtain⟨a,k,b,s,_,X,_⟩:=M.split
  rw[s.eq,X,length_append,length_cons];omega
 have N:=f131 G i u hs E
 unfold gW at N
 rw[e1]at N
 have V:=λbn=>f118 G _ _ _ p.id u hs E M.mem (by rw[M.fnd];exact v201 G bn j p X (by omega))
 have Z:l7 i u=U.wth p.id (λy=>{y with kids:=pm y.kids j}) u:=by unfold l7;rw[e1]
 rw[Z]
 have D:=U.cs_len (U.wth p.id (λy=>{y with kids:=pm y.kids j}) u)
 generalize (U.wth p.id (λy=>{y with kids:=pm y.kids j}) u).cs=ys at*
 have J:ys.take 8=ys:=take_of_length_le (by omega)
 simp only[Idd.cs]at N V
 rw[U.cs_eq u]at N V ⊢
 refine Pure.w c115 λR hR=>?_
 unfold s115 r115
 (repeat' (first|(with_reducible refine aa N ?_)|simp only[EVz,seval,↓reduceIte,EV6,EV7,D,J,F]|simp only[EVz,seval,↓reduceIte,EV6,EV7,D,J]|(with_reducible intro ad O;(try(have I:=O;simp only[EVK]at I;first|(have F:=AI I F)|(have F:=I))))|(refine ce (V _).v (by refine⟨?_,λE=>?_⟩;(repeat(first|exact aM|(refine aD (by repeat(exact mem_cons_self)) ?_)));(simp only[Store.keys,map_cons,map_nil,nodup_cons,mem_cons,not_mem_nil,or_false,not_or,not_false_eq_true,true_and,nodup_nil,and_true,@eq_comm Nat]at E ⊢ <;>simp only[E,not_false_eq_true,and_self])) ?_)|fail))
 all_goals exact hR _ _ (.inl (.inl (by simp[D,J])))
theorem dG (e:Int):LeRep (.tup [.agg zU,.int .i64 e]) (aO (noU,e)):=LeRep.tup (.cons po (.cons (LeRep.refl _) .nil))
end
theorem ag.leRep {G:Glob} {P:Program} {k:FuncId} {args:List AV} {σ:Store} {r0:AV} {R1:Store->Prop} (h:ag G P k args σ (λr σ'=>LeRep r r0/\R1 σ')):ag G P k args σ (λr σ'=>r=r0/\R1 σ'):=
 ⟨h.1,λρ w vs M I=>(h.2 ρ w vs M I).mono (by
  rintro e w' ⟨v,r,σ',rfl,⟨N,F⟩,E,J,D⟩
  exact⟨v,r0,σ',rfl,⟨rfl,F⟩,E,J,N _ _ _ D⟩)⟩
theorem fit_rng {u:U} {q:Idd} {k:Int} {x:U} (h:en u q k x=0):0<=k/\k<=(fnd q u).kids.length:=by
 unfold en at h
 split at h
 ·cases h
 split at h
 ·cases h
 split at h
 ·cases h
 split at h
 ·cases h
 ·rename_i c;omega
def remU (u:U) (i:Idd):U:=if (remT u i).2≠0 then noU else fnd i u
theorem rem_ok {u:U} {i:Idd} (h:(remT u i).2=0):i∈u.ids/\u.id≠i/\(remT u i).1=l7 i u:=by
 unfold remT at*
 split at h
 ·cases h
 rename_i c1
 split at h
 ·cases h
 rename_i c2
 split at h
 ·cases h
 rename_i c3
 rw[if_neg c1,if_neg c2,if_neg c3]
 exact⟨by simpa using c2,c3,rfl⟩
theorem rem_bad {u:U} {i:Idd} (h:(remT u i).2≠0):(remT u i).1=noU:=by
 unfold remT at*
 split
 ·rfl
 rename_i c1
 rw[if_neg c1]at h
 split
 ·rfl
 rename_i c2
 rw[if_neg c2]at h
 split
 ·rfl
 rename_i c3
 rw[if_neg c3]at h
 exact absurd rfl h
section
variable (G:Glob) (hG:GOk G)
include hG
set_option maxHeartbeats 4000000 in
theorem f60 (u:U) (V:Good u) (h0:u.kind=0) (q:Idd) (k:Int) (x:U) (hx:x.Short) (ac:x.flat.length<=1000000):Pure G Tryz.prog 60 [.agg u.cs,.agg q.cs,.int .i64 k,.agg x.cs] (aO (insT u q k x)):=by
 have hs:=V.short
 have J:=f117 G hG u (d6 V h0) hs (by have:=V.cnt;omega) q k x hx ac
 simp only[Idd.cs]at J
 unfold insT
 obtain⟨F,N⟩:∃F,en u q k x=F:=⟨_,rfl⟩
 rw[N]at J ⊢
 have hU:=U.cs_eq u
 have hX:=U.cs_eq x
 by_cases M:F=0
 ·subst M
  have hq:=fit_mem N
  have hr:=fit_rng N
  obtain⟨j,rfl⟩:∃j:Nat,k=j:=⟨k.toNat,by omega⟩
  have ah:=gq V q
  have X:=λa b=>f118 G _ _ _ q u hs V.nd hq (v212 G a b j x (fnd q u) (by omega) (by omega) hx)
  rw[if_neg (by simp),Int.toNat_natCast]
  have O:=U.cs_len (U.wth q (λz=>{z with kids:=l8 z.kids j x}) u)
  have hP:=f119 G (j:Int) x
  simp only[Idd.cs]at X
  unfold aO
  simp only
  generalize (U.wth q (λz=>{z with kids:=l8 z.kids j x}) u).cs=ys at*
  have T:ys.take 8=ys:=take_of_length_le (by omega)
  rw[hU]at J X ⊢
  rw[hX]at J X hP ⊢
  refine Pure.w c60 λR Z=>?_
  unfold s60 r60
  (repeat' (first|(with_reducible (first|refine ab (λh=>?_) (λh=>?_)|refine ai (λh=>?_) (λh=>?_)|refine aj (λh=>?_) (λh=>?_))<;>(try simp only[DZ]at h))|(with_reducible first|refine AI (by omega) ?_|refine aa J ?_)|simp only[EVz,seval,↓reduceIte,EV6,EV7,O,T,D]|simp only[EVz,seval,↓reduceIte,EV6,EV7,O,T]|(with_reducible intro Y I;(try(have E:=I;simp only[EVK]at E;first|(have D:=AI E D)|(have D:=E))))|(with_reducible first|refine ae ?_ ?_|refine af ?_)|(refine av [] _ hP.v (ax.rfl' _) (SubN.refl _) (λr σ' hh ad=>?_);obtain⟨ba,bb,rfl,rfl⟩:=hh;(have D:=ad);(try simp[Store.keys]at D))|(refine ce (X _ _).v (SubN.cons (SubN.cons (SubN.nil _) _) _) ?_)|(exfalso;omega)))
  all_goals exact Z _ _ (.inl (.inl (by first|rfl|(simp[O,T];done))))
 ·have e1:decide (F≠0)=true:=decide_eq_true M
  rw[if_pos M]
  rw[hU,hX]at J ⊢
  refine Pure.wL c60 λR Z=>?_
  unfold s60 r60
  (repeat' (first|(with_reducible (first|refine ab (λh=>?_) (λh=>?_)|refine ai (λh=>?_) (λh=>?_)|refine aj (λh=>?_) (λh=>?_))<;>(try simp only[DZ]at h))|(with_reducible first|refine AI (by omega) ?_|refine aa J ?_)|simp only[EVz,seval,↓reduceIte,EV6,EV7,e1,D]|simp only[EVz,seval,↓reduceIte,EV6,EV7,e1]|(with_reducible intro Y I;(try(have E:=I;simp only[EVK]at E;first|(have D:=AI E D)|(have D:=E))))|(with_reducible first|refine ae ?_ ?_|refine af ?_)|(exfalso;omega)))
  all_goals exact Z _ _ (dG F)
theorem f110 (b:Nat) (u:U) (M:u.Short):ag G Tryz.prog 110 [.sc (.pointer (some ⟨b,0,none⟩))] [(b,.cells 27 u.cs)] λr σ'=>r= .bool (!stP u)/\σ'=[(b,.cells 27 u.cs)]:=by
 have I:=f111 G hG u M
 refine ag.w c110 ?_
 unfold s110 r110
 rw[U.cs_eq u]at I ⊢
 (repeat' (first|(with_reducible (first|refine ab (λh=>?_) (λh=>?_)|refine ai (λh=>?_) (λh=>?_)|refine aj (λh=>?_) (λh=>?_))<;>(try simp only[DZ]at h))|(with_reducible first|refine AI (by omega) ?_|refine aa I ?_)|simp only[EVz,seval,↓reduceIte,EV6,EV7,D]|simp only[EVz,seval,↓reduceIte,EV6,EV7]|(with_reducible intro J F;(try(have E:=F;simp only[EVK]at E;first|(have D:=AI E D)|(have D:=E))))|(with_reducible first|refine ae ?_ ?_|refine af ?_)|(exfalso;omega)))
 all_goals exact RET.keep rfl (SubN.refl _)
omit hG
theorem f112 (b c:Nat) (u:U) (O:u.Short) (i:Idd):ag G Tryz.prog 112 [.sc (.pointer (some ⟨b,0,none⟩)),.sc (.pointer (some ⟨c,0,none⟩))] [(b,.cells 27 u.cs),(c,.cells 23 i.cs)] λr σ'=>r= .bool (!hasP i u)/\σ'=[(b,.cells 27 u.cs),(c,.cells 23 i.cs)]:=by
 have J:=f113 G i u O
 simp only[Idd.cs]at J
 refine ag.wn c112 λI=>?_
 have M:¬b=c:=by simp[Store.keys]at I;exact I
 unfold s112 r112
 rw[U.cs_eq u]at J ⊢
 (repeat' (first|(with_reducible (first|refine ab (λh=>?_) (λh=>?_)|refine ai (λh=>?_) (λh=>?_)|refine aj (λh=>?_) (λh=>?_))<;>(try simp only[DZ]at h))|(with_reducible first|refine AI (by omega) ?_|refine aa J ?_)|simp only[EVz,seval,↓reduceIte,EV6,EV7,M,D]|simp only[EVz,seval,↓reduceIte,EV6,EV7,M]|(with_reducible intro N F;(try(have E:=F;simp only[EVK]at E;first|(have D:=AI E D)|(have D:=E))))|(with_reducible first|refine ae ?_ ?_|refine af ?_)|(exfalso;omega)))
 all_goals exact RET.keep rfl (SubN.refl _)
theorem f114 (b c:Nat) (u:U) (i:Idd):ag G Tryz.prog 114 [.sc (.pointer (some ⟨b,0,none⟩)),.sc (.pointer (some ⟨c,0,none⟩))] [(b,.cells 27 u.cs),(c,.cells 23 i.cs)] λr σ'=>r= .bool (decide (u.id=i))/\σ'=[(b,.cells 27 u.cs),(c,.cells 23 i.cs)]:=by
 refine ag.wn c114 λI=>?_
 have J:¬b=c:=by simp[Store.keys]at I;exact I
 unfold s114 r114
 rw[U.cs_eq u]
 (repeat' (first|(with_reducible (first|refine ab (λh=>?_) (λh=>?_)|refine ai (λh=>?_) (λh=>?_)|refine aj (λh=>?_) (λh=>?_))<;>(try simp only[DZ]at h))|(with_reducible refine AI (by omega) ?_)|simp only[EVz,seval,↓reduceIte,EV6,EV7,J,gv,D]|simp only[EVz,seval,↓reduceIte,EV6,EV7,J,gv]|(with_reducible intro M F;(try(have E:=F;simp only[EVK]at E;first|(have D:=AI E D)|(have D:=E))))|(with_reducible first|refine ae ?_ ?_|refine af ?_)|(exfalso;omega)))
 all_goals exact RET.keep rfl (SubN.refl _)
include hG
set_option maxHeartbeats 4000000 in
theorem f58 (u:U) (hg:Good u) (i:Idd):Pure G Tryz.prog 58 [.agg u.cs,.agg i.cs] (.tup [.agg (remT u i).1.cs,.agg (remU u i).cs,.int .i64 (remT u i).2]):=by
 have hs:=hg.short
 have c1:=λb=>f110 G hG b u hs
 have c2:=λb c=>f112 G b c u hs i
 have c3:=λb c=>f114 G b c u i
 have N:=λf1 f2 f3=>rem_first u i f1 f2 f3
 have hU:=U.cs_eq u
 obtain⟨e,Y⟩:∃e,(remT u i).2=e:=⟨_,rfl⟩
 have ac:(remU u i)=if e≠0 then noU else fnd i u:=by unfold remU;rw[Y]
 rw[ac]
 simp only[Y]at N
 rw[Y]
 simp only[Idd.cs]at c2 c3
 by_cases h0:e=0
 ·subst h0
  obtain⟨hi,Z,hw⟩:=rem_ok Y
  rw[hw,if_neg (by simp)]
  have V:=f115 G u hs hg.nd i hi Z (λp hp=>cT (hg.node p hp))
  have hF:=cj G i u hs
  have hC:=f116 G (fnd i u) (fb hs i)
  have J:=U.cs_len (l7 i u)
  have M:=U.cs_len (fnd i u)
  generalize (l7 i u).cs=xs at*
  generalize (fnd i u).cs=ys at*
  have O:xs.take 8=xs:=take_of_length_le (by omega)
  have T:ys.take 8=ys:=take_of_length_le (by omega)
  simp only[Idd.cs]at V hF
  rw[hU]at c1 c2 c3 V hF ⊢
  refine Pure.w c58 λR hR=>?_
  unfold s58 r58
  (repeat' (first|(with_reducible (first|refine ab (λh=>?_) (λh=>?_)|refine ai (λh=>?_) (λh=>?_)|refine aj (λh=>?_) (λh=>?_))<;>(try simp only[DZ]at h))|(with_reducible first|refine AI (by omega) ?_|refine aa V ?_|refine aa hF ?_|refine aa hC ?_)|simp only[EVz,seval,↓reduceIte,EV6,EV7,J,M,O,T,D]|simp only[EVz,seval,↓reduceIte,EV6,EV7,J,M,O,T]|(with_reducible intro X F;(try(have E:=F;simp only[EVK]at E;first|(have D:=AI E D)|(have D:=E))))|(with_reducible first|refine ae ?_ ?_|refine af ?_)|(refine⟨[[.sc _,.int .i64 _],[.sc _,.int .i64 _],[.sc _,.int .i64 _]],rfl,(by simp),rfl,?_⟩)|(exfalso;omega)))
  refine bG G (l:=[(_,!stP u,1),(_,!hasP i u,4),(_,decide (u.id=i),9)]) rfl (by simp) (λy hy=>?_) ?_
  ·simp only[mem_cons,not_mem_nil,or_false]at hy
   rcases hy with rfl|rfl|rfl
   ·exact⟨_,(by refine⟨?_,λI=>?_⟩;(repeat(first|exact aM|(refine aD (by repeat(first|exact mem_cons_self|refine mem_cons_of_mem _ ?_)) ?_)));(simp only[Store.keys,map_cons,map_nil,nodup_cons,mem_cons,not_mem_nil,or_false,not_or,not_false_eq_true,true_and,nodup_nil,and_true,@eq_comm Nat]at I ⊢ <;>simp only[I,not_false_eq_true,and_self])),_,_,_,rfl,c1 _⟩
   ·exact⟨_,(by refine⟨?_,λI=>?_⟩;(repeat(first|exact aM|(refine aD (by repeat(first|exact mem_cons_self|refine mem_cons_of_mem _ ?_)) ?_)));(simp only[Store.keys,map_cons,map_nil,nodup_cons,mem_cons,not_mem_nil,or_false,not_or,not_false_eq_true,true_and,nodup_nil,and_true,@eq_comm Nat]at I ⊢ <;>simp only[I,not_false_eq_true,and_self])),_,_,_,rfl,c2 _ _⟩
   ·exact⟨_,(by refine⟨?_,λI=>?_⟩;(repeat(first|exact aM|(refine aD (by repeat(first|exact mem_cons_self|refine mem_cons_of_mem _ ?_)) ?_)));(simp only[Store.keys,map_cons,map_nil,nodup_cons,mem_cons,not_mem_nil,or_false,not_or,not_false_eq_true,true_and,nodup_nil,and_true,@eq_comm Nat]at I ⊢ <;>simp only[I,not_false_eq_true,and_self])),_,_,_,rfl,c3 _ _⟩
  ·rw[N]
   (repeat' (first|(with_reducible (first|refine ab (λh=>?_) (λh=>?_)|refine ai (λh=>?_) (λh=>?_)|refine aj (λh=>?_) (λh=>?_))<;>(try simp only[DZ]at h))|(with_reducible first|refine AI (by omega) ?_|refine aa V ?_|refine aa hF ?_|refine aa hC ?_)|simp only[EVz,seval,↓reduceIte,EV6,EV7,J,M,O,T,D]|simp only[EVz,seval,↓reduceIte,EV6,EV7,J,M,O,T]|(with_reducible intro X F;(try(have E:=F;simp only[EVK]at E;first|(have D:=AI E D)|(have D:=E))))|(with_reducible first|refine ae ?_ ?_|refine af ?_)|(exfalso;omega)))
   all_goals exact hR _ _ (.inl (.inl (by first|rfl|(simp[J,M,O,T];done))))
 ·have e1:decide (e≠0)=true:=decide_eq_true h0
  rw[if_pos h0,rem_bad (by rw[Y];exact h0)]
  rw[hU]at c1 c2 c3 ⊢
  refine Pure.wL c58 λR hR=>?_
  unfold s58 r58
  (repeat' (first|(with_reducible (first|refine ab (λh=>?_) (λh=>?_)|refine ai (λh=>?_) (λh=>?_)|refine aj (λh=>?_) (λh=>?_))<;>(try simp only[DZ]at h))|(with_reducible refine AI (by omega) ?_)|simp only[EVz,seval,↓reduceIte,EV6,EV7,e1,D]|simp only[EVz,seval,↓reduceIte,EV6,EV7,e1]|(with_reducible intro X F;(try(have E:=F;simp only[EVK]at E;first|(have D:=AI E D)|(have D:=E))))|(with_reducible first|refine ae ?_ ?_|refine af ?_)|(refine⟨[[.sc _,.int .i64 _],[.sc _,.int .i64 _],[.sc _,.int .i64 _]],rfl,(by simp),rfl,?_⟩)|(exfalso;omega)))
  refine bG G (l:=[(_,!stP u,1),(_,!hasP i u,4),(_,decide (u.id=i),9)]) rfl (by simp) (λy hy=>?_) ?_
  ·simp only[mem_cons,not_mem_nil,or_false]at hy
   rcases hy with rfl|rfl|rfl
   ·exact⟨_,(by refine⟨?_,λI=>?_⟩;(repeat(first|exact aM|(refine aD (by repeat(first|exact mem_cons_self|refine mem_cons_of_mem _ ?_)) ?_)));(simp only[Store.keys,map_cons,map_nil,nodup_cons,mem_cons,not_mem_nil,or_false,not_or,not_false_eq_true,true_and,nodup_nil,and_true,@eq_comm Nat]at I ⊢ <;>simp only[I,not_false_eq_true,and_self])),_,_,_,rfl,c1 _⟩
   ·exact⟨_,(by refine⟨?_,λI=>?_⟩;(repeat(first|exact aM|(refine aD (by repeat(first|exact mem_cons_self|refine mem_cons_of_mem _ ?_)) ?_)));(simp only[Store.keys,map_cons,map_nil,nodup_cons,mem_cons,not_mem_nil,or_false,not_or,not_false_eq_true,true_and,nodup_nil,and_true,@eq_comm Nat]at I ⊢ <;>simp only[I,not_false_eq_true,and_self])),_,_,_,rfl,c2 _ _⟩
   ·exact⟨_,(by refine⟨?_,λI=>?_⟩;(repeat(first|exact aM|(refine aD (by repeat(first|exact mem_cons_self|refine mem_cons_of_mem _ ?_)) ?_)));(simp only[Store.keys,map_cons,map_nil,nodup_cons,mem_cons,not_mem_nil,or_false,not_or,not_false_eq_true,true_and,nodup_nil,and_true,@eq_comm Nat]at I ⊢ <;>simp only[I,not_false_eq_true,and_self])),_,_,_,rfl,c3 _ _⟩
  ·rw[N]
   (repeat' (first|(with_reducible (first|refine ab (λh=>?_) (λh=>?_)|refine ai (λh=>?_) (λh=>?_)|refine aj (λh=>?_) (λh=>?_))<;>(try simp only[DZ]at h))|(with_reducible refine AI (by omega) ?_)|simp only[EVz,seval,↓reduceIte,EV6,EV7,e1,D]|simp only[EVz,seval,↓reduceIte,EV6,EV7,e1]|(with_reducible intro X F;(try(have E:=F;simp only[EVK]at E;first|(have D:=AI E D)|(have D:=E))))|(with_reducible first|refine ae ?_ ?_|refine af ?_)|(exfalso;omega)))
   all_goals exact hR _ _ (LeRep.tup (.cons po (.cons po (.cons (LeRep.refl _) .nil))))
end
end Go.Av
