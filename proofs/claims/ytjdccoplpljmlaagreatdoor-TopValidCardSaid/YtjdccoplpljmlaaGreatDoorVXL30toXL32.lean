/-
  LINT, 30: the program's lines and texts of trees.
-/
import Derived.Test.YtjdccoplpljmlaaGreatDoorVXL29toXL28
import Derived.Test.YtjdccoplpljmlaaGreatDoorVXL18toXL21
import Derived.Test.YtjdccoplpljmlaaGreatDoorVXY10toXL27
namespace Go.Av
open Go Go.RowKit Go.Proofs List
set_option linter.unusedSimpArgs false
set_option linter.unusedVariables false
theorem mV {e:TypeId} {sz bytes n m m':Nat} {τ:Store} (κ:Store) {g:Option Nat} {rows:List (List AV)} {cs:List AV} {K:AV->Store->Prop} {b k1:Nat} (I:τ=κ++tokS g e m) (T:∀d,g=some d->d∉κ.keys) (hr:rows.length=n) (Y:m=n*sz)
  (F:m'=(n+1)*sz) (X:cs.length=sz) (O:b∉τ.keys) (Z:(n+1)*bytes<=140737488355328) (V:∀E,(∀d,E=some d->d∉κ.keys)->K (.own E e sz (rows++[cs])) (κ++tokS E e m')):
  appX e sz bytes ((b,.tok e k1)::τ) g rows [cs] K:=by
 obtain⟨rs,M,h2,J,N⟩:=app_rowK (K:=λ_=>K) (k1:=k1) κ I T hr Y F X O Z V
 obtain⟨r,rfl⟩:=length_eq_one_iff.1 M
 simp only[flatten_cons,flatten_nil,append_nil]at J
 subst J
 exact N
section
variable (G:Glob)
theorem v_clo2 {k:Nat} {b c:Nat} {args:List AV} {σ:Store} {R:AV->Store->Prop} (h:aj G Tryz.prog k (args++[.sc (.pointer (some ⟨b,0,none⟩)),.sc (.pointer (some ⟨c,0,none⟩))]) σ R):cn G Tryz.prog (.func (.func k) #[] #[.pointer (some ⟨b,0,none⟩),.pointer (some ⟨c,0,none⟩)]) args σ R:=
 ⟨k,#[],#[.pointer (some ⟨b,0,none⟩),.pointer (some ⟨c,0,none⟩)],rfl,by simpa[AV.ofValue,AV.ofOne]using h⟩
end
theorem jP:∀l:List (List UInt8),l≠[]->Lib.join l [10]++[10]=l.flatMap λs=>s++[10]
 |[],h=>absurd rfl h
 |[s],_=>by simp[Lib.join,List.intercalate]
 |s::t::l,_=>by
  have ih:=jP (t::l) (by simp)
  have e:Lib.join (s::t::l) [10]=s++([10]++Lib.join (t::l) [10]):=by simp[Lib.join,List.intercalate]
  rw[e,flatMap_cons,←ih]
  simp
theorem textT_len (u:U) (N:u.flat.length<1000000):(textT u).length<=20001000000:=by
 have I:=U.lines_len u 0
 have E:=lines_short u 0
 unfold textT
 have key:∀l:List (List UInt8),(∀s∈l,s.length<=20000)->(l.flatMap λs=>s++[10]).length<=l.length*20001:=by
  intro l
  induction l with
  |nil=>intro _;simp
  |cons s l ih=>
   intro h
   have J:=h s (by simp)
   have M:=ih λt F=>h t (by simp[F])
   simp only[flatMap_cons,length_append,length_cons,length_nil]at*
   omega
 have:=key _ E
 omega
def LnSt (F E:Nat) (g:Option Nat) (v:AV) (n:Nat):Store:=(E,.cells 314 [.sc (.func (.func 298) #[] #[.pointer (some ⟨F,0,none⟩),.pointer (some ⟨E,0,none⟩)])])::(F,.cells 57 [v])::tokS g 9 n
def LnOk (F E:Nat) (g:Option Nat) (v:AV) (rows:List (List UInt8)):Prop:=(v= .own g 9 1 (rows.map srow)\/v= .nil/\g=none/\rows=[])/\(∀d,g=some d->d≠F/\d≠E)/\E≠F
section
variable (G:Glob) (hG:GOk G)
include hG
set_option maxHeartbeats 2000000 in
theorem f298:∀(u:U) (n:Nat),u.Short->n+u.flat.length<=1000000->∀(N I:Nat) (g:Option Nat) (v:AV) (rows:List (List UInt8)),LnOk N I g v rows->rows.length+u.flat.length<=1000000->
  aj G Tryz.prog 298 [.agg u.cs,.int .i64 n,.sc (.pointer (some ⟨N,0,none⟩)),.sc (.pointer (some ⟨I,0,none⟩))] (LnSt N I g v rows.length)
   (λr σ'=>r= .tup []/\∃g',LnOk N I g' (.own g' 9 1 ((rows++u.lines n).map srow)) (rows++u.lines n)/\σ'=LnSt N I g' (.own g' 9 1 ((rows++u.lines n).map srow)) (rows++u.lines n).length):=by
 refine U.ind λu ih n hs hn N I g v rows J bh=>?_
 have bd:=hs.1.kids
 have bb:u.flat.length=1+(U.flats u.kids).length:=by rw[U.flat_eq,length_cons];omega
 have Z:IntKind.i64.wrap ((n:Int)+1)=((n+1:Nat):Int):=by rw[av (by omega) (by omega)];omega
 obtain⟨hv,hg,F⟩:=J
 have M:¬N=I:=λe=>F e.symm
 have hL:=f299 G hG u n hs (by omega)
 have ag:=U.lines_len u n
 refine aj.w c298 ?_
 unfold s298 r298 LnSt
 rcases hv with rfl|⟨rfl,rfl,rfl⟩
 ·(repeat' (first|(with_reducible refine aa hL ?_)|simp only[EVz,seval,↓reduceIte,EV6,EV7,F,M,ad]|simp only[EVz,seval,↓reduceIte,EV6,EV7,F,M]|(with_reducible intro ah X;(try(have Y:=X;simp only[EVK]at Y;(have ad:=Y))))|(with_reducible first|refine ae ?_ ?_|refine af ?_)|(refine⟨[[.str (lineOf u n)]],rfl,(by simp),rfl,?_⟩)|(refine mV (n:=rows.length) (m':=rows.length+1) [_,_] (by rfl) (λd hd=>by simp[Store.keys];exact⟨(hg d hd).2,(hg d hd).1⟩) (by simp) (by omega) (by omega) rfl (by assumption) (by omega) (λgn ac=>?_))))
  all_goals(
   refine ax (ι:=Option Nat×List (List UInt8)) u.kids (λi r c=>LnOk N I c.1 (.own c.1 9 1 (c.2.map srow)) c.2/\rows++u.lines n=c.2++U.liness (n+1) r/\c.2.length+(U.liness (n+1) r).length<=1000000)
    (λi c=>[(1,.int .i64 n),(3,.sc (.pointer (some ⟨I,0,none⟩))),(15,.lst 8 (u.kids.map U.cs)),(16,.int .i64 u.kids.length),(17,.int .i64 i)])
    (λi c=>LnSt N I c.1 (.own c.1 9 1 (c.2.map srow)) c.2.length) (gn,rows++[lineOf u n]) ⟨⟨.inl rfl,λd hd=>by have:=ac d hd;simp[Store.keys]at this;exact⟨this.2,this.1⟩,F⟩,by rw[U.lines_eq];simp,by have:=ag;simp only[U.lines_eq,length_cons,length_append,length_nil]at*;omega⟩
    (by simp only[LnSt,map_append,map_cons,map_nil,length_append,length_cons,length_nil,srow];exact Weak.rfl' _ _) (by omega) (λi x r c J E hw=>?_) (λc J hn=>?_)
   ·obtain⟨o1,O,o3⟩:=J
    rw[U.liness_cons]at O o3
    rw[length_append]at o3
    have an:=U.lines_len x (n+1)
    have al:=U.flats_mem E.mem
    unfold LnSt
    (try simp only[EVz,seval,↓reduceIte,EV6,EV7,E.yes,E.le0,E.lt',E.row,hw,Z,F,M])
    intro b7 T
    have V:¬b7=I:=by simp only[EVK]at T;exact T.1
    (try simp only[EVz,seval,↓reduceIte,EV6,EV7,E.yes,E.le0,E.lt',E.row,hw,Z,F,M,V])
    refine aP (LnSt N I c.1 (.own c.1 9 1 (c.2.map srow)) c.2.length) [(b7,.cells 29 x.cs)] (v_clo2 G (ih x E.mem (n+1) (hs.kid E.mem) (by omega) N I c.1 _ c.2 o1 (by omega))) (aA.rfl' _) SubN.comm1 ?_
    rintro r' aw ⟨rfl,g',hk,rfl⟩
    (try simp only[EVz,seval,↓reduceIte,EV6,EV7,hw])
    refine am E (g',c.2++x.lines (n+1)) ⟨hk,by have:=O;simp only[append_assoc,nil_append]at this ⊢;exact this,by simp only[length_append];omega⟩ (Weak.sub SubN.left)
   ·obtain⟨o1,O,o3⟩:=J
    rw[U.liness,append_nil]at O
    (try simp only[EVz,seval,↓reduceIte,EV6,EV7,hn])
    (try rw[nil_append]at O)
    exact RET.mk (SubN.refl _) ⟨rfl,c.1,by rw[O];exact o1,by rw[O];rfl⟩)
 ·(repeat' (first|(with_reducible refine aa hL ?_)|simp only[EVz,seval,↓reduceIte,EV6,EV7,F,M,ad]|simp only[EVz,seval,↓reduceIte,EV6,EV7,F,M]|(with_reducible intro ah X;(try(have Y:=X;simp only[EVK]at Y;(have ad:=Y))))|(with_reducible first|refine ae ?_ ?_|refine af ?_)|(refine⟨[[.str (lineOf u n)]],rfl,(by simp),rfl,?_⟩)|(refine mV (n:=0) (m':=1) [_,_] (by rfl) (by simp) (by simp) (by omega) (by omega) rfl (by assumption) (by omega) (λgn ac=>?_))))
  all_goals(
   refine ax (ι:=Option Nat×List (List UInt8)) u.kids (λi r c=>LnOk N I c.1 (.own c.1 9 1 (c.2.map srow)) c.2/\[]++u.lines n=c.2++U.liness (n+1) r/\c.2.length+(U.liness (n+1) r).length<=1000000)
    (λi c=>[(1,.int .i64 n),(3,.sc (.pointer (some ⟨I,0,none⟩))),(15,.lst 8 (u.kids.map U.cs)),(16,.int .i64 u.kids.length),(17,.int .i64 i)])
    (λi c=>LnSt N I c.1 (.own c.1 9 1 (c.2.map srow)) c.2.length) (gn,[lineOf u n]) ⟨⟨.inl rfl,λd hd=>by have:=ac d hd;simp[Store.keys]at this;exact⟨this.2,this.1⟩,F⟩,by rw[U.lines_eq];simp,by have:=ag;simp only[U.lines_eq,length_cons,length_append,length_nil]at*;omega⟩
    (by simp only[LnSt,map_append,map_cons,map_nil,length_append,length_cons,length_nil,srow];exact Weak.rfl' _ _) (by omega) (λi x r c J E hw=>?_) (λc J hn=>?_)
   ·obtain⟨o1,O,o3⟩:=J
    rw[U.liness_cons]at O o3
    rw[length_append]at o3
    have an:=U.lines_len x (n+1)
    have al:=U.flats_mem E.mem
    unfold LnSt
    (try simp only[EVz,seval,↓reduceIte,EV6,EV7,E.yes,E.le0,E.lt',E.row,hw,Z,F,M])
    intro b7 T
    have V:¬b7=I:=by simp only[EVK]at T;exact T.1
    (try simp only[EVz,seval,↓reduceIte,EV6,EV7,E.yes,E.le0,E.lt',E.row,hw,Z,F,M,V])
    refine aP (LnSt N I c.1 (.own c.1 9 1 (c.2.map srow)) c.2.length) [(b7,.cells 29 x.cs)] (v_clo2 G (ih x E.mem (n+1) (hs.kid E.mem) (by omega) N I c.1 _ c.2 o1 (by omega))) (aA.rfl' _) SubN.comm1 ?_
    rintro r' aw ⟨rfl,g',hk,rfl⟩
    (try simp only[EVz,seval,↓reduceIte,EV6,EV7,hw])
    refine am E (g',c.2++x.lines (n+1)) ⟨hk,by have:=O;simp only[append_assoc,nil_append]at this ⊢;exact this,by simp only[length_append];omega⟩ (Weak.sub SubN.left)
   ·obtain⟨o1,O,o3⟩:=J
    rw[U.liness,append_nil]at O
    (try simp only[EVz,seval,↓reduceIte,EV6,EV7,hn])
    (try rw[nil_append]at O)
    exact RET.mk (SubN.refl _) ⟨rfl,c.1,by rw[O];exact o1,by rw[O];rfl⟩)
theorem f254 (u:U) (O:u.Short):aj G Tryz.prog 254 [.agg u.cs] [] (λr σ'=>(shapeOk u=false/\r= .nil)\/(shapeOk u=true/\∃g,r= .own g 9 1 ((u.lines 0).map srow))):=by
 have T:=f142 G u O
 have E:=f9 G hG u.strip (jk O)
 rw[kw]at E
 have hc:=O.1.2
 refine aj.w c254 ?_
 unfold s254 r254
 cases I:shapeOk u with
 |false=>
  rw[I]at E
  (repeat' (first|(with_reducible first|refine aa T ?_|refine aa E ?_)|simp only[EVz,seval,↓reduceIte,EV6,EV7]))
  exact RET.mk (SubN.nil _) (by simp)
 |true=>
  rw[I]at E
  (try simp only[EVz,seval,↓reduceIte,EV6,EV7,T])
  refine aa T ?_
  (try simp only[EVz,seval,↓reduceIte,EV6,EV7])
  refine aa E ?_
  (try simp only[EVz,seval,↓reduceIte,EV6,EV7])
  intro M Y J F
  have N:¬J=M:=by simp only[EVK]at F;exact F
  have V:¬M=J:=λe=>N e.symm
  (try simp only[EVz,seval,↓reduceIte,EV6,EV7,N,V])
  have X:=f298 G hG u 0 O (by omega) M J none .nil [] ⟨.inr ⟨rfl,rfl,rfl⟩,by simp,N⟩ (by simp;omega)
  refine aP (LnSt M J none .nil 0) [] (v_clo2 G X) (aA.rfl' _) (by rw[append_nil];exact SubN.refl _) ?_
  rintro r σ' ⟨rfl,Z,_,rfl⟩
  unfold LnSt
  (try simp only[EVz,seval,↓reduceIte,EV6,EV7,N,V])
  exact RET.mk (SubN.nil _) (by simp)
theorem f203 (u:U) (N:u.Short):Pure G Tryz.prog 203 [.agg u.cs] (.tup [.str (textOf u).1,.int .i64 (textOf u).2]):=by
 have T:=f254 G hG u N
 have V:=N.1.2
 have M:=U.lines_len u 0
 have E:1<=(u.lines 0).length:=by rw[M];exact u.flat_pos
 have X:=jP (u.lines 0) (by intro e;rw[e]at E;simp at E)
 have Z:=textT_len u V
 have I:Lib.join (u.lines 0) [10]++[10]=textT u:=X
 have Y:(Lib.join (u.lines 0) [10]).length+1=(textT u).length:=by rw[←I];simp
 refine Pure.w c203 λR F=>?_
 unfold s203 r203
 (try simp only[EVz,seval,↓reduceIte,EV6,EV7])
 refine aP [] [] T.v (aA.rfl' _) (SubN.refl _) ?_
 rintro r σ' (⟨hsh,rfl⟩|⟨hsh,g,rfl⟩)
 ·have J:textOf u=([],1):=by unfold textOf;rw[hsh];rfl
  rw[J]at F
  (try simp only[EVz,seval,↓reduceIte,EV6,EV7])
  exact RET.eq F rfl
 ·have J:textOf u=if (16384:Int)<(textT u).length then ([],6)else (textT u,0):=by unfold textOf;rw[hsh];rfl
  rw[J]at F
  have hz:decide (((u.lines 0).length:Int)=0)=false:=decide_eq_false (by omega)
  have O:=f255 G g (u.lines 0) [10] (by omega) (by omega)
  (repeat' (first|(with_reducible (refine ab (λh=>?_) (λh=>?_))<;>(try simp only[DZ]at h))|(with_reducible first|refine AI (by omega) ?_|refine aa O ?_)|simp only[EVz,seval,↓reduceIte,EV6,EV7,hz,I,length_cons,length_nil]))
  ·rw[if_pos (by omega)]at F
   exact RET.eq F rfl
  ·rw[if_neg (by omega)]at F
   exact RET.eq F rfl
end
theorem Itm.ext' {a b:Itm} (T:a.kind=b.kind) (V:a.at_=b.at_) (X:a.to_=b.to_) (Y:a.wh=b.wh) (Z:a.nth=b.nth) (h6:a.unit=b.unit) (h7:a.old=b.old) (h8:a.new=b.new) (h9:a.label=b.label) (E:a.for_=b.for_)
  (F:a.start=b.start) (I:a.act=b.act) (J:a.item=b.item) (M:a.day=b.day) (N:a.event=b.event) (O:a.by_=b.by_):a=b:=by
 cases a;cases b;simp_all
theorem sta_eq {a b:Sta} (h:(decide (a.kind=b.kind)&&(decide (a.day=b.day)&&(decide (a.event=b.event)&&true)))=true):a=b:=by
 cases a;cases b;simp_all
theorem sta_ne {a b:Sta} (h:(decide (a.kind=b.kind)&&(decide (a.day=b.day)&&(decide (a.event=b.event)&&true)))=false):a≠b:=by
 rintro rfl;simp at h
section
variable (G:Glob)
end
def Itm.just (x:Itm):Itm:=
 if x.kind=0 then {iz with wh:=x.wh,unit:=x.unit}else if x.kind=2\/x.kind=3 then {iz with old:=x.old,new:=x.new,nth:=x.nth}else if x.kind=4 then {iz with new:=x.new}else
 if x.kind=5 then {iz with label:=x.label}else if x.kind=6 then {iz with to_:=x.to_,wh:=x.wh}else if x.kind=7\/x.kind=8\/x.kind=9 then {iz with act:=x.act,item:=x.item,day:=x.day}else
 if x.kind=10 then {iz with event:=x.event,day:=x.day}else if x.kind=11 then {iz with act:=x.act,item:=x.item,by_:=x.by_}else iz
def Itm.told (x:Itm):Itm:=if x.kind<=6 then {x.just with kind:=x.kind,at_:=x.at_,for_:=x.for_,start:=x.start}else {x.just with kind:=x.kind}
section
variable (G:Glob)
end
structure Itm.Short1 (x:Itm):Prop where
 fit:x.fit
 unit:x.unit.Short
 at_:x.at_.length<1000000
 to_:x.to_.length<1000000
 atl:∀s∈x.at_,s.label.length<1000000000000000000
 tol:∀s∈x.to_,s.label.length<1000000000000000000
 old:x.old.length<1000000
 new:x.new.length<1000000
 label:x.label.length<1000000000000000000
 for_:x.for_.length<1000000000000000000
 start:x.start.event.length<1000000000000000000
 event:x.event.length<1000000000000000000
mutual
def Itm.Shorts:Itm->Prop
 |⟨k,a,t,wh,n,u,o,w,l,f,s,ac,it,d,e,b⟩=>Itm.Short1 ⟨k,a,t,wh,n,u,o,w,l,f,s,ac,it,d,e,b⟩/\Itm.Shortss b
def Itm.Shortss:List Itm->Prop
 |[]=>True
 |x::l=>Itm.Shorts x/\Itm.Shortss l
end
theorem Itm.Shortss_iff:∀{us:List Itm},Itm.Shortss us↔∀k∈us,k.Shorts
 |[]=>by simp[Itm.Shortss]
 |u::us=>by simp[Itm.Shortss,Itm.Shortss_iff (us:=us)]
theorem Itm.Shorts_eq (x:Itm):x.Shorts↔x.Short1/\∀k∈x.by_,k.Shorts:=by
 cases x
 rw[Itm.Shorts,Itm.Shortss_iff]
def cV (l:List (List UInt8)) (n:Int):Bool:=dH l&&decide (n<=(l.length:Int))
def Itm.own (x:Itm) (y:Bool):Bool:=
 if x.kind=0 then inR x.wh 0 3&&(bareOk x.unit&&(decide (x.unit.kind≠0)&&decide ((textOf x.unit).2=0)))
 else if x.kind=2 then cV x.old 1&&(cV x.new 0&&inR x.nth 0 256)
 else if x.kind=3 then cV x.old 0&&(cV x.new 1&&(inR x.nth 0 256&&(decide (0<(x.old.length:Int))||decide (x.nth=0))))
 else if x.kind=4 then cV x.new 0
 else if x.kind=5 then bc x.label
 else if x.kind=6 then inR x.wh 0 3&&dP x.to_
 else if x.kind=7\/x.kind=8\/x.kind=9 then inR x.act 1 1048576&&(inR x.item (-1) 31&&inR x.day 0 1048576)
 else if x.kind=10 then gS x.event&&inR x.day 0 1048576
 else if x.kind=11 then inR x.act 1 1048576&&(inR x.item 0 31&&y)
 else true
def Itm.pre (x:Itm):Bool:=(inR x.kind 0 11&&decide (x=x.told))&&(decide (6<x.kind)||(dP x.at_&&((decide (x.for_=[])||gS x.for_)&&l6 x.start)))
mutual
def Itm.may:Itm->Bool
 |⟨k,a,t,wh,n,u,o,w,l,f,s,ac,it,d,e,b⟩=>Itm.pre ⟨k,a,t,wh,n,u,o,w,l,f,s,ac,it,d,e,b⟩&&Itm.own ⟨k,a,t,wh,n,u,o,w,l,f,s,ac,it,d,e,b⟩ (Itm.mayOne b)
def Itm.mayOne:List Itm->Bool
 |[]=>false
 |x::l=>(l.isEmpty&&inR x.kind 0 6)&&Itm.may x
end
theorem Itm.may_eq (x:Itm):x.may=(x.pre&&x.own (Itm.mayOne x.by_)):=by cases x;rw[Itm.may]
theorem Itm.mayOne_cons (x:Itm) (l:List Itm):Itm.mayOne (x::l)=((l.isEmpty&&inR x.kind 0 6)&&x.may):=by rw[Itm.mayOne]
section
variable (G:Glob)
end
section
variable (G:Glob) (hG:GOk G)
include hG
theorem f153 (u:U) (I:u.Short):Pure G Tryz.prog 153 [.agg u.cs] (.bool (bareOk u&&(decide (u.kind≠0)&&decide ((textOf u).2=0)))):=by
 have J:=f203 G hG u I
 have E:=f204 G hG u I
 rw[←gK]at E
 refine Pure.w c153 λR F=>?_
 unfold s153 r153
 (repeat' (first|(with_reducible (refine ai (λh=>?_) (λh=>?_))<;>(try simp only[DZ]at h))|(with_reducible first|refine aa J ?_|refine aa E ?_)|simp only[EVz,seval,↓reduceIte,EV6,EV7]))
 (all_goals(first|(refine RET.eq F ?_;(refine congrArg AV.bool (Bool.eq_iff_iff.2 ?_);simp only[EVB]at*;omega))|(refine RET.eq F ?_;((simp_all[];done)))))
theorem f151 (x:Itm) (I:x.unit.Short):Pure G Tryz.prog 151 [.agg x.cs] (.bool (inR x.wh 0 3&&(bareOk x.unit&&(decide (x.unit.kind≠0)&&decide ((textOf x.unit).2=0))))):=by
 have F:=f153 G hG x.unit I
 refine Pure.w c151 λR E=>?_
 unfold s151 r151
 generalize (bareOk x.unit&&(decide (x.unit.kind≠0)&&decide ((textOf x.unit).2=0)))=q at*
 (repeat' (first|(with_reducible (refine ai (λh=>?_) (λh=>?_))<;>(try simp only[DZ]at h))|(with_reducible first|refine aa (f152 G _) ?_|refine aa F ?_)|simp only[EVz,seval,↓reduceIte,EV6,EV7,U.cs_fold]))
 (all_goals(((refine RET.eq E ?_;((simp_all[];done))))))
end
section
variable (G:Glob)
theorem f157 (x:Itm) (q:x.Short1):Pure G Tryz.prog 157 [.agg x.cs] (.bool (cV x.old 1&&(cV x.new 0&&inR x.nth 0 256))):=by
 have I:=λn=>f158 G x.old n (by have:=q.old;omega)
 have F:=λn=>f158 G x.new n (by have:=q.new;omega)
 refine Pure.w c157 λR E=>?_
 unfold s157 r157
 unfold cV at*
 (repeat' (first|(with_reducible (refine ai (λh=>?_) (λh=>?_))<;>(try simp only[DZ]at h))|(with_reducible first|refine aa (I _) ?_|refine aa (F _) ?_|refine aa (f159 G x) ?_)|simp only[EVz,seval,↓reduceIte,EV6,EV7]))
 (all_goals(((refine RET.eq E ?_;first|(simp_all[];done)|grind))))
theorem f161 (x:Itm) (q:x.Short1):Pure G Tryz.prog 161 [.agg x.cs] (.bool (cV x.old 0&&(cV x.new 1&&(inR x.nth 0 256&&(decide (0<(x.old.length:Int))||decide (x.nth=0)))))):=by
 have J:=f158 G x.old 0 (by have:=q.old;omega)
 have I:=f158 G x.new 1 (by have:=q.new;omega)
 refine Pure.w c161 λR F=>?_
 unfold s161 r161
 unfold cV at*
 generalize (dH x.old&&decide ((0:Int)<=(x.old.length:Int)))=q1 at*
 generalize (dH x.new&&decide ((1:Int)<=(x.new.length:Int)))=q2 at*
 have E:=f159 G x
 generalize inR x.nth 0 256=q3 at*
 (repeat' (first|(with_reducible (refine ai (λh=>?_) (λh=>?_))<;>(try simp only[DZ]at h))|(with_reducible first|refine aa J ?_|refine aa I ?_|refine aa E ?_)|simp only[EVz,seval,↓reduceIte,EV6,EV7]))
 (all_goals(((refine RET.eq F ?_;((simp_all[];done))))))
theorem f163 (x:Itm) (q:x.Short1):Pure G Tryz.prog 163 [.agg x.cs] (.bool (cV x.new 0)):=by
 have F:=λn=>f158 G x.new n (by have:=q.new;omega)
 refine Pure.w c163 λR E=>?_
 unfold s163 r163
 unfold cV at*
 (repeat' (first|(with_reducible refine aa (F _) ?_)|simp only[EVz,seval,↓reduceIte,EV6,EV7]))
 (all_goals((exact RET.eq E rfl)))
theorem f165 (x:Itm):Pure G Tryz.prog 165 [.agg x.cs] (.bool (bc x.label)):=by
 refine Pure.w c165 λR E=>?_
 unfold s165 r165
 (repeat' (first|(with_reducible refine aa (f75 G _) ?_)|simp only[EVz,seval,↓reduceIte,EV6,EV7]))
 (all_goals((exact RET.eq E rfl)))
theorem f167 (x:Itm) (q:x.Short1):Pure G Tryz.prog 167 [.agg x.cs] (.bool (inR x.wh 0 3&&dP x.to_)):=by
 have F:=f117 G x.to_ q.to_
 refine Pure.w c167 λR E=>?_
 unfold s167 r167
 (repeat' (first|(with_reducible (refine ai (λh=>?_) (λh=>?_))<;>(try simp only[DZ]at h))|(with_reducible first|refine aa (f152 G _) ?_|refine aa F ?_)|simp only[EVz,seval,↓reduceIte,EV6,EV7]))
 (all_goals(((refine RET.eq E ?_;((simp_all[];done))))))
theorem f169 (x:Itm) (q:x.Short1):Pure G Tryz.prog 169 [.agg x.cs] (.bool (gS x.event&&inR x.day 0 1048576)):=by
 have F:=f118 G x.event q.event
 refine Pure.w c169 λR E=>?_
 unfold s169 r169
 (repeat' (first|(with_reducible (refine ai (λh=>?_) (λh=>?_))<;>(try simp only[DZ]at h))|(with_reducible first|refine aa (f170 G _ _ _) ?_|refine aa F ?_)|simp only[EVz,seval,↓reduceIte,EV6,EV7]))
 (all_goals(((refine RET.eq E ?_;((simp_all[];done))))))
theorem f172 (x:Itm) (q:x.Short1) (N:∀y∈x.by_,Pure G Tryz.prog 67 [.agg y.cs] (.bool y.may)):
  Pure G Tryz.prog 172 [.agg x.cs] (.bool (inR x.act 1 1048576&&(inR x.item 0 31&&Itm.mayOne x.by_))):=by
 refine Pure.w c172 λR F=>?_
 unfold s172 r172
 have I:=f173 G x 0
 generalize inR x.act 1 1048576=q1 at*
 generalize inR x.item 0 31=q2 at*
 rcases E:x.by_ with _|⟨y,_|⟨z,l⟩⟩
 ·rw[E,Itm.mayOne]at F
  (repeat' (first|(with_reducible (refine ai (λh=>?_) (λh=>?_))<;>(try simp only[DZ]at h))|(with_reducible refine aa I ?_)|simp only[EVz,seval,↓reduceIte,EV6,EV7,E,map_nil,length_nil]))
  (all_goals(((refine RET.eq F ?_;((simp_all[];done))))))
 ·rw[E,Itm.mayOne_cons]at F
  have J:=N y (by rw[E];simp)
  (repeat' (first|(with_reducible (refine ai (λh=>?_) (λh=>?_))<;>(try simp only[DZ]at h))|(with_reducible first|refine aa I ?_|refine aa (f116 G _) ?_|refine aa J ?_)|simp only[EVz,seval,↓reduceIte,EV6,EV7,E,map_cons,map_nil,length_nil,length_cons,getD_cons_zero]))
  (all_goals(((refine RET.eq F ?_;((simp_all[];done))))))
 ·rw[E,Itm.mayOne_cons]at F
  have M:decide (((x.by_.length:Nat):Int)=1)=false:=by rw[E];simp;omega
  (repeat' (first|(with_reducible (refine ai (λh=>?_) (λh=>?_))<;>(try simp only[DZ]at h))|(with_reducible refine aa I ?_)|simp only[EVz,seval,↓reduceIte,EV6,EV7,M]))
  (all_goals(((refine RET.eq F ?_;((simp_all[];done))))))
end
def fnv (k:Nat):AV:=.sc (.func (.func k) #[] #[])
def intK (n:Int):Value:=.int .i64 n
def aF:List (Int×AV):=[(0,.agg [fnv 150,fnv 151]),(1,.agg [fnv 154,fnv 155]),(2,.agg [fnv 156,fnv 157]),(3,.agg [fnv 160,fnv 161]),
 (4,.agg [fnv 162,fnv 163]),(5,.agg [fnv 164,fnv 165]),(6,.agg [fnv 166,fnv 167]),(7,.agg [fnv 422,fnv 423]),(8,.agg [fnv 422,fnv 423]),
 (9,.agg [fnv 422,fnv 423]),(10,.agg [fnv 168,fnv 169]),(11,.agg [fnv 171,fnv 172])]
theorem aH {b:Nat} {x:AObj} {σ:Store}:Store.get ((b,x)::σ) b=some x:=by simp[Store.get]
theorem bE:MapK Tryz.prog 3 intK:=nE (by kernel_rfl)
theorem mD {G:Glob} {env:Env} (n:Int):∀τ w v,Rep τ w ((SOpd.of (.const (.int .i64 n))).eval G env) v->v=intK n:=by
 intro τ w v h
 have E:v= .int .i64 n:=by simpa only[SOpd.of,SOpd.eval,AV.ofValue,AV.ofOne,Rep]using h
 exact E
section
variable (G:Glob) (hG:GOk G)
include hG
theorem f115:aj G Tryz.prog 115 [] [] (λr σ=>∃b,r= .sc (.map (some b))/\σ=[(b,.map (bB intK aF))]):=by
 have E:=eval_g hG.order
 refine aj.w c115 ?_
 unfold s115 r115
 (try simp only[EVz,seval,↓reduceIte,EV6,EV7])
 refine cc ?_
 intro b F
 (try simp only[EVz,seval,↓reduceIte,EV6,EV7])
 refine dq bE (l:=[]) (k:=0) (eT:=149) rfl (mD 0) rfl (by kernel_rfl) aH ?_
 (repeat' (first|simp only[EVz,seval,↓reduceIte,EV6,EV7,E]|(refine dq bE (eT:=149) rfl (mD _) rfl (by kernel_rfl) aH ?_)))
 exact RET.mk (SubN.refl _) ⟨b,rfl,rfl⟩
end
end Go.Av
