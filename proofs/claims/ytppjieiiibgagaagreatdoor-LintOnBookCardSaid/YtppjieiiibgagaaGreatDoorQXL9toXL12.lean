/-
  LINT, 9: labels, addresses.
-/
import Derived.Test.YtppjieiiibgagaaGreatDoorQXL8
import Derived.Test.YtppjieiiibgagaaGreatDoorQShelf
import Derived.Shelf.Strings.FuncGrows
import Derived.Laws.RangeAny
import Derived.Lib.MinMax
set_option linter.all false
namespace Go.Av
open Go Go.RowKit Go.Proofs List
def W_listF {α ι:Type} {G:Glob} {P:Program} {a:SCode} {Q:Exit->Env->Store->Prop} {X:Tag Q} {env:Env} {σ:Store} (l:List α) (D:Nat) (ok:Nat->List α->ι->Prop) (st:Nat->ι->Env) (E:Nat->ι->Store) (c0:ι)
  (hi:D<=l.length) (T:ok D (l.drop D) c0) (V:Weak G env σ (st D c0) (E D c0)) (Y:l.length<9000000000000000000)
  (F:∀i x r c,ok i (x::r) c->Rest l i x r->IntKind.i64.wrap ((i:Int)+1)=((i+1:Nat):Int)->W G P a (NR (LK G l ok st E i) Q ⟨⟩ ⟨⟩) (st i c) (E i c) ⟨⟩)
  (I:∀c,ok l.length [] c->decide ((l.length:Int)<(l.length:Int))=false->W G P a (NR (LK G l ok st E l.length) Q ⟨⟩ ⟨⟩) (st l.length c) (E l.length c) ⟨⟩):W G P (.loop a) Q env σ X:=by
 refine gS (ι:=Nat×List α×ι) (λj=>l.drop j.1=j.2.1/\j.1<=l.length/\ok j.1 j.2.1 j.2.2) (λj=>l.length-j.1) (λj=>st j.1 j.2.2) (λj=>E j.1 j.2.2) (D,l.drop D,c0) ⟨rfl,hi,T⟩ V ?_
 rintro⟨i,r,c⟩ ⟨J,N,M⟩
 simp only at J N M ⊢
 cases r with
 |nil=>
  obtain rfl:=pV J N;exact I c M (by simp)
 |cons x r=>
  have O:=iR J;exact F i x r c M O (fF (by have:=O.lt;omega))
def eD (p:Nat->Bool) (J:∀n,128<=n->p n=true) (s:List UInt8):∀(f pos:Nat),pos<=s.length->s.length-pos<=f->
  Lib.idxFuncFrom p true ⟨⟨s⟩⟩ f pos=idxF (λc:UInt8=>p c.toNat) pos (s.drop pos)
 |0,pos,h1,h2=>by
  have:s.drop pos=[]:=drop_eq_nil_of_le (by omega);rw[this];rfl
 |f+1,pos,h1,h2=>by
  have M:(⟨⟨s⟩⟩:ByteArray).size=s.length:=rfl;unfold Lib.idxFuncFrom;rw[M];by_cases D:pos<s.length
  ·have E:pos<(⟨⟨s⟩⟩:ByteArray).size:=D;have e:s.drop pos=s[pos]::s.drop (pos+1):=drop_eq_getElem_cons D;have F:(⟨⟨s⟩⟩:ByteArray)[pos]'E=s[pos]:=rfl;rw[if_pos D,e,idxF];by_cases N:(s[pos]).toNat<128
   ·have I:=decode_ascii (⟨⟨s⟩⟩:ByteArray) pos E (by rw[F];exact N);rw[I,F]
    cases O:p (s[pos]).toNat with
    |true=>simp
    |false=>simp;exact eD p J s f (pos+1) (by omega) (by omega)
   ·have I:=decode_high (⟨⟨s⟩⟩:ByteArray) pos E (by rw[F];omega);rw[J _ I.1,J _ (by omega)];simp
  ·rw[if_neg D,drop_eq_nil_of_le (by omega)];rfl
def pm {w w':World} (ev:Ev [] w [] w'):Below w.heap.size w w':=⟨ev.os,ev.tape,ev.output,ev.size,λk D=>(ev.block k D (by simp[Store.keys])).1⟩
section
variable (G:Glob)
def mE {g:Nat} {p:Nat->Bool} {τ:Store} {w:World} (E:Sat G τ w) (I:∀n:Nat,Pure G Tryz.prog g [.int .i32 (n:Int)] (.bool (p n))):PredGrows Tryz.prog g #[] p w:=λW x J F=>by
 have:=(I x).2 τ W (#[encR x]++#[]) (by simpa using Sat.below E F) (by simp[RepL,Rep]);refine this.mono ?_;rintro e w' ⟨v,r,σ',rfl,⟨rfl,rfl⟩,_,ev,D⟩;simp only[Rep]at D;exact⟨by rw[D],pm ev⟩
def f335 (g:Nat) (p:Nat->Bool) (s:List UInt8) (F:∀args w,(callFunc g args).run Tryz.prog w= .ok (.enter g args) w) (N:∀n,128<=n->p n=true) (M:∀n:Nat,Pure G Tryz.prog g [.int .i32 (n:Int)] (.bool (p n))):
  Pure G Tryz.prog 335 [.str s,.sc (.func (.func g) #[] #[])] (.i (idxF (λc:UInt8=>p c.toNat) 0 s)):=by
 refine sn Tryz.func335 (by kernel_rfl) (by kernel_rfl) λτ w vs J I=>?_
 obtain⟨u,v,rfl,D,E⟩:=gT I
 simp only[Rep]at D E
 subst D E
 refine⟨.i (idxF (λc:UInt8=>p c.toNat) 0 s),λ_ _=>by simp only[Rep],?_⟩
 have h:=Any.strings_IndexFunc_grows Tryz.laysGw15 g #[] F p ⟨⟨s⟩⟩ w (mE G J M)
 have e:Lib.idxFunc p true ⟨⟨s⟩⟩=idxF (λc:UInt8=>p c.toNat) 0 s:=eD p N s s.length 0 (by omega) (by omega)
 rw[e]at h
 exact h
def f293 (g:Nat) (p:Nat->Bool) (s:List UInt8) (F:∀args w,(callFunc g args).run Tryz.prog w= .ok (.enter g args) w) (N:∀n,128<=n->p n=true) (M:∀n:Nat,Pure G Tryz.prog g [.int .i32 (n:Int)] (.bool (p n))):
  Pure G Tryz.prog 293 [.str s,.sc (.func (.func g) #[] #[])] (.bool (s.any λc:UInt8=>p c.toNat)):=by
 refine sn Tryz.func293 (by kernel_rfl) (by kernel_rfl) λτ w vs J I=>?_
 obtain⟨u,v,rfl,D,E⟩:=gT I
 simp only[Rep]at D E
 subst D E
 refine⟨.bool (s.any λc:UInt8=>p c.toNat),λ_ _=>by simp only[Rep],?_⟩
 have h:=Any.strings_ContainsFunc_grows Tryz.laysGw17 g #[] F p ⟨⟨s⟩⟩ w (mE G J M)
 have e:Lib.idxFunc p true ⟨⟨s⟩⟩=idxF (λc:UInt8=>p c.toNat) 0 s:=eD p N s s.length 0 (by omega) (by omega)
 rw[e,dZ]at h
 exact h
def ja (n:Nat):Bool:=decide (n<48)||decide (57<n)
def ls (n:Nat):Bool:=decide (n<65)||decide (90<n)
def f344 (n:Nat):Pure G Tryz.prog 344 [.int .i32 (n:Int)] (.bool (ja n)):=by
 refine Pure.w c344 λR D=>?_;unfold s344 r344;(repeat' (first|(with_reducible (refine af (λh=>?_) λh=>?_)<;>(try simp only[DZ]at h))|simp only[EV,seval]));(all_goals(((refine RET.eq D ?_;(refine congrArg AV.bool (Bool.eq_iff_iff.2 ?_);simp only[ja,EVB]at*;omega)))))
def f292 (n:Nat):Pure G Tryz.prog 292 [.int .i32 (n:Int)] (.bool (ls n)):=by
 refine Pure.w c292 λR D=>?_;unfold s292 r292;(repeat' (first|(with_reducible (refine af (λh=>?_) λh=>?_)<;>(try simp only[DZ]at h))|simp only[EV,seval]));(all_goals(((refine RET.eq D ?_;(refine congrArg AV.bool (Bool.eq_iff_iff.2 ?_);simp only[ls,EVB]at*;omega)))))
def pG:∀(s:List UInt8) (i:Nat),idxF (λc:UInt8=>ja c.toNat) i s=if digN s<s.length then ((i+digN s:Nat):Int)else -1
 |[],i=>rfl
 |c::s,i=>by
  unfold idxF digN
  have E:ja c.toNat= !fK c:=by
   unfold ja fK;rw[Bool.eq_iff_iff];simp<;>omega
  rw[E]
  cases h:fK c with
  |true=>
   simp only[Bool.not_true,if_true,Bool.false_eq_true,if_false];rw[pG s (i+1)];simp only[length_cons];by_cases D:digN s<s.length
   ·rw[if_pos D,if_pos (by omega)];congr 1;omega
   ·rw[if_neg D,if_neg (by omega)]
  |false=>simp
def any_up (s:List UInt8):(s.any λc:UInt8=>ls c.toNat)= !(s.all isUp):=by
 induction s with
 |nil=>rfl
 |cons c s ih=>
  rw[any_cons,all_cons,ih]
  have D:ls c.toNat= !isUp c:=by
   unfold ls isUp;rw[Bool.eq_iff_iff];simp<;>omega
  rw[D]
  cases isUp c<;>simp
def f291 (s:List UInt8):Pure G Tryz.prog 291 [.str s] (.tup [.str (s.take (digN s)),.str (s.drop (digN s))]):=by
 refine Pure.w c291 λR E=>?_;unfold s291 r291;have F:=kU s;have D:=f335 G 344 ja s (enters_of Tryz.func344 (by kernel_rfl) rfl) (λn I=>by simp[ja];omega) (λn=>f344 G n);rw[pG s 0,Nat.zero_add]at D;by_cases h:digN s<s.length
 ·rw[if_pos h]at D;(repeat' (first|(with_reducible (refine ae (λh=>?_) λh=>?_)<;>(try simp only[DZ]at h))|(with_reducible first|refine AI (by omega) ?_|refine ab D ?_)|simp only[EV,seval]|(exfalso;omega)));(all_goals(((refine RET.eq E ?_;((simp_all[];done))))))
 ·rw[if_neg h]at D
  have e:digN s=s.length:=by omega
  rw[e,take_length,drop_length]at E;(repeat' (first|(with_reducible refine ab D ?_)|simp only[EV,seval]));(all_goals((exact RET.eq E rfl)))
def f198 (s:List UInt8):Pure G Tryz.prog 198 [.str s] (.bool (bK s)):=by
 refine Pure.w c198 λR F=>?_;unfold s198 r198;have I:=kU s;have D:min (digN s) s.length=digN s:=Nat.min_eq_left I;have E:=f293 G 292 ls (s.drop (digN s)) (enters_of Tryz.func292 (by kernel_rfl) rfl) (λn O=>by simp[ls];omega) (λn=>f292 G n);rw[any_up]at E;by_cases N:1<=digN s
 ·have M:(s.take (digN s)).getD 0 0=s.getD 0 0:=by simp[List.getD,getElem?_take,show 0<digN s by omega]
  (repeat' (first|(with_reducible (refine af (λh=>?_) λh=>?_)<;>(try simp only[DZ]at h))|(with_reducible first|refine AI (by omega) ?_|refine ab (f291 G s) ?_|refine ab E ?_)|simp only[EV,seval,length_take,length_drop,D,M,Bool.not_not]|(exfalso;omega)));(all_goals(first|(refine RET.eq F ?_;(refine congrArg AV.bool (Bool.eq_iff_iff.2 ?_);simp only[bK,EVB]at*;omega))|(refine RET.eq F ?_;((simp_all[bK];done)))))
 ·have J:bK s=false:=by simp[bK,show ¬((1:Int)<=digN s)by omega]
  rw[J]at F;(repeat' (first|(with_reducible (refine af (λh=>?_) λh=>?_)<;>(try simp only[DZ]at h))|(with_reducible first|refine AI (by omega) ?_|refine ab (f291 G s) ?_|refine ab E ?_)|simp only[EV,seval,length_take,length_drop,D]|(exfalso;omega)));(all_goals((exact RET.eq F rfl)))
def f79 (s:List UInt8) (N:s.length<1000000000000000000):Pure G Tryz.prog 79 [.str s] (.bool (bK s)):=by
 refine Pure.w c79 λR J=>?_;unfold s79 r79;have F:=kU s
 have D:IntKind.i64.wrap ((s.length:Int)-(digN s:Int))=((s.length-digN s:Nat):Int):=by rw[av (by omega) (by omega)];omega
 (repeat' (first|(with_reducible (first|refine ae (λh=>?_) λh=>?_|refine af (λh=>?_) λh=>?_)<;>(try simp only[DZ]at h))|(with_reducible first|refine AI (by omega) ?_|refine ab (f141 G s N) ?_)|simp only[EV,seval,D,E.yes,E.le0,E.lt',E.get,E.row,O]|simp only[EV,seval,D,M]|simp only[EV,seval,D]|(refine ak E () ?_ (dT _ _))|(refine W_listF s (digN s) (λi r (c:Unit)=>(s.drop (digN s)).all isUp=r.all isUp) (λi c=>[(0,.str s),(4,.i i)]) (λ_ _=>[]) () F rfl (dT _ _) (by omega) (λi x r c I E O=>?_) (λc I M=>?_))));(all_goals(first|(refine RET.eq J ?_;(refine congrArg AV.bool (Bool.eq_iff_iff.2 ?_);simp only[bK,isUp,EVB]at*;omega))|(refine RET.eq J ?_;first|(simp_all[bK,isUp];done)|(simp_all[bK,isUp];omega))|(simp_all[bK,isUp];done)))
end
section
variable (G:Glob)
def f73 (p:List Stp) (N:p.length<1000000) (J:∀x∈p,x.label.length<1000000000000000000):Pure G Tryz.prog 73 [.lst 2 (p.map Stp.cs)] (.bool (cP p)):=by
 refine Pure.w c73 λR F=>?_;unfold s73 r73;(repeat' (first|(with_reducible (first|refine ae (λh=>?_) λh=>?_|refine af (λh=>?_) λh=>?_)<;>(try simp only[DZ]at h))|(with_reducible first|refine ab (f136 G _ _) ?_|refine ab (f79 G _ (J _ D.mem)) ?_)|simp only[EV,seval,D.yes,D.le0,D.lt',D.get,D.row,M]|simp only[EV,seval,I]|simp only[EV,seval]|(refine ak D () ?_ (dT _ _))|(refine ap (p) (λi r (c:Unit)=>cC 0 p=cC i r) (λi c=>[(0,.lst 2 (p.map Stp.cs)),(3,.i i)]) (λ_ _=>[]) () (by rfl) (dT _ _) (by omega) (λi x r c E D M=>?_) (λc E I=>?_))));(all_goals(first|(refine RET.eq F ?_;(refine congrArg AV.bool (Bool.eq_iff_iff.2 ?_);simp only[cP,cC,fg,EVB]at*;omega))|(refine RET.eq F ?_;first|(simp only[cP,cC,fg,E,h,EVC,decide_true,decide_false];done)|(simp_all[cP,cC,fg];done)|(simp_all[cP,cC,fg];omega))|(simp_all[cP,cC,fg];done)))
def f131 (p:List Stp) (V:p.length<1000000):Pure G Tryz.prog 131 [.lst 2 (p.map Stp.cs)] (.bool (cP p)):=by
 refine Pure.w c131 λR M=>?_;unfold s131 r131;(repeat' (first|(with_reducible (first|refine ae (λh=>?_) λh=>?_|refine af (λh=>?_) λh=>?_)<;>(try simp only[DZ]at h))|(with_reducible first|refine ab (f251 G _ _) ?_|refine ab (f198 G _) ?_)|simp only[EV,seval,D.yes,D.le0,D.lt',D.get,D.row,T]|simp only[EV,seval,N]|simp only[EV,seval]|(with_reducible intro J E;(try(have F:=E;simp only[EVK]at F;(have O:=F))))|(refine ak D () ?_ (Weak.sub (SubN.nil _)))|(refine ap (p) (λi r (c:Unit)=>cC 0 p=cC i r) (λi c=>[(0,.lst 2 (p.map Stp.cs)),(5,.lst 2 (p.map Stp.cs)),(6,.i p.length),(7,.i i)]) (λ_ _=>[]) () (by rfl) (dT _ _) (by omega) (λi x r c I D T=>?_) (λc I N=>?_))));(all_goals(first|(refine RET.eq M ?_;first|(simp only[cP,cC,fg,I,EVC,decide_true,decide_false];done)|(simp_all[cP,cC,fg];done)|(simp_all[cP,cC,fg];omega))|(simp_all[cP,cC,fg];done)|(simp_all[cP,cC,fg];omega)))
end
mutual
def U.size:U->Int->Int->Int
 |⟨_,_,_,_,_,ks⟩,d,m=>if 20<d then m+1 else U.sizes ks d m 1
def U.sizes:List U->Int->Int->Int->Int
 |[],_,_,n=>n
 |u::us,d,m,n=>if n<=m then U.sizes us d m (n+U.size u (d+1) (m-n))else n
end
def up (u:U) (d m:Int):u.size d m=if 20<d then m+1 else U.sizes u.kids d m 1:=by cases u;rw[U.size]
def uq:∀(u:U) (d m:Int),0<=m->1<=u.size d m/\u.size d m<=m+1/\(u.size d m<=m->d<=20/\(u.flat.length:Int)=u.size d m):=by
 refine U.ind λu ih d m hm=>?_;rw[up];split
 ·exact⟨by omega,by omega,by omega⟩
 ·rename_i Z
  have key:∀(us:List U) (n:Int),(∀k∈us,k∈u.kids)->1<=n->n<=m+1->n<=U.sizes us d m n/\U.sizes us d m n<=m+1/\(U.sizes us d m n<=m->n+((U.flats us).length:Int)=U.sizes us d m n):=by
   intro us
   induction us with
   |nil=>intro n _ J M;simp[U.sizes,U.flats];omega
   |cons k us ihu=>
    intro n D J M;rw[U.sizes];split
    ·rename_i hn;obtain⟨V,X,E⟩:=ih k (D k (by simp)) (d+1) (m-n) (by omega);obtain⟨Y,F,I⟩:=ihu (n+k.size (d+1) (m-n)) (λq N=>D q (by simp[N])) (by omega) (by omega);refine⟨by omega,F,λh=>?_⟩;have c1:=(E (by omega)).2;have c2:=I h;rw[U.flats,length_append];omega
    ·exact⟨by omega,by omega,by omega⟩
  obtain⟨k1,O,T⟩:=key u.kids 1 (λ_ h=>h) (by omega) (by omega);refine⟨by omega,O,λh=>⟨by omega,?_⟩⟩;have:=T h;rw[U.flat_eq,length_cons];omega
def fP (l:List Wd):Bool:=(l.all λw=>decide ((w.text.length:Int)<=100))&&decide ((l.length:Int)<=300)
mutual
def U.shorts:U->Bool
 |⟨_,_,l,h,w,ks⟩=>decide ((l.length:Int)<=30)&&(fP h&&(fP w&&U.shortss ks))
def U.shortss:List U->Bool
 |[]=>true
 |u::us=>U.shorts u&&U.shortss us
end
def tY (u:U):u.shorts=(decide ((u.label.length:Int)<=30)&&(fP u.head&&(fP u.words&&U.shortss u.kids))):=by cases u;rw[U.shorts]
def U.few (u:U) (m:Int):Bool:=decide (u.size 0 m<=m)&&u.shorts
section
variable {G:Glob} {P:Program}
def RAW_max {a b:Int} {i j:Nat} {t V:TypeId} {env:Env} {σ:Store} {K:AV->Store->Prop} (hi:env.get i= .i a) (N:env.get j= .i b) (O:K (.i (max a b)) σ):
  RAW G P (.call (.mk (.builtin .max) #[.tmp i,.tmp j] #[t,V])) env σ K ⟨⟩:=by
 refine dS _ (λρ w F op T X I=>?_) O
 have D:=I i
 have E:=I j
 rw[hi]at D
 rw[N]at E
 simp only[Rep]at D E
 refine⟨.i (max a b),?_,by simp only[Rep]⟩
 have J:F.eval (.tmp i)= .i a:=D
 have M:F.eval (.tmp j)= .i b:=E
 simp[execOp,T,resolve,invoke,builtin,J,M,Lib.run_max_ints]
end
mutual
def U.fit:U->Prop
 |⟨_,_,l,h,w,ks⟩=>l.length<1000000000000000000/\(h.length<1000000000000000000/\∀x∈h,x.text.length<1000000000000000000)/\(w.length<1000000000000000000/\∀x∈w,x.text.length<1000000000000000000)/\ks.length<1000000000000000000/\U.fits ks
def U.fits:List U->Prop
 |[]=>True
 |u::us=>U.fit u/\U.fits us
end
def uh:∀{us:List U},U.fits us↔∀k∈us,k.fit
 |[]=>by simp[U.fits]
 |u::us=>by simp[U.fits,uh (us:=us)]
def sj (u:U):u.fit↔u.label.length<1000000000000000000/\(u.head.length<1000000000000000000/\∀x∈u.head,x.text.length<1000000000000000000)/\(u.words.length<1000000000000000000/\∀x∈u.words,x.text.length<1000000000000000000)/\u.kids.length<1000000000000000000/\∀k∈u.kids,k.fit:=by
 cases u
 rw[U.fit,uh]
section
variable (G:Glob)
def f49:∀(u:U) (d m:Int),u.fit->0<=d->d<=1000->0<=m->m<=1000000->Pure G Tryz.prog 49 [.agg u.cs,.i d,.i m] (.i (u.size d m)):=by
 refine U.ind λu ih d m J T V Y Z=>?_;have O:=(sj u).1 J;have X:=O.2.2.2.1;refine Pure.w c49 λR M=>?_;unfold s49 r49;have I:IntKind.i64.wrap (m+1)=m+1:=av (by omega) (by omega);have F:IntKind.i64.wrap (d+1)=d+1:=av (by omega) (by omega);rw[up]at M;(repeat' (first|(with_reducible (refine ae (λh=>?_) λh=>?_)<;>(try simp only[DZ]at h))|(with_reducible refine ab (ih x E.mem (d+1) (m-c) (O.2.2.2.2 x E.mem) (by omega) (by omega) (by omega) (by omega)) ?_)|simp only[EV,seval,I,F,E.yes,E.le0,E.lt',E.get,E.row,hw,N]|simp only[EV,seval,I,F,hn]|simp only[EV,seval,I,F]|(refine ap (ι:=Int) (u.kids) (λi r c=>U.sizes u.kids d m 1=U.sizes r d m c/\1<=c/\c<=m+1) (λi c=>[(1,.i d),(2,.i m),(3,.ref u.cs),(7,.i c),(8,.i i)]) (λ_ _=>[]) (1) (by((simp;omega))) (dT _ _) (by omega) (λi x r c D E hw=>?_) (λc D hn=>?_)<;>(try(have N:IntKind.i64.wrap (m-c)=m-c:=av (by omega) (by omega))))|(refine ak E _ ?_ (dT _ _))))
 ·exact RET.eq M (by rw[if_pos h])
 ·obtain⟨a1,a2,a3⟩:=uq x (d+1) (m-c) (by omega);have e:IntKind.i64.wrap (c+x.size (d+1) (m-c))=c+x.size (d+1) (m-c):=av (by omega) (by omega);rw[e];refine⟨?_,by omega,by omega⟩;rw[D.1,U.sizes,if_pos h]
 ·exact RET.eq M (by rw[if_neg (by omega),D.1,U.sizes,if_neg (by omega)])
 ·exact RET.eq M (by rw[if_neg (by omega),D.1,U.sizes])
def f105 (l:List Wd) (M:l.length<1000000000000000000):Pure G Tryz.prog 105 [.lst 4 (l.map Wd.cs)] (.bool (fP l)):=by
 refine Pure.w c105 λR F=>?_;unfold s105 r105;(repeat' (first|(with_reducible (refine ae (λh=>?_) λh=>?_)<;>(try simp only[DZ]at h))|simp only[EV,seval,E.yes,E.le0,E.lt',E.get,E.row,J]|simp only[EV,seval,I]|simp only[EV,seval]|(refine ak E () ?_ (dT _ _))|(refine ap (l) (λi r (c:Unit)=>(l.all λw=>decide ((w.text.length:Int)<=100))=r.all λw=>decide ((w.text.length:Int)<=100)) (λi c=>[(0,.lst 4 (l.map Wd.cs)),(3,.i i)]) (λ_ _=>[]) () (by rfl) (dT _ _) (by omega) (λi x r c D E J=>?_) (λc D I=>?_))));(all_goals(first|(refine RET.eq F ?_;first|(simp only[fP,D,EVC,decide_true,decide_false];done)|(simp_all[fP];omega))|(rw[D];simp only[fP,h,EVC,decide_true,decide_false];done)))
def f50:∀(u:U),u.fit->Pure G Tryz.prog 50 [.agg u.cs] (.bool u.shorts):=by
 refine U.ind λu ih F=>?_;have I:=(sj u).1 F;have M:=I.2.2.2.1;refine Pure.w c50 λR J=>?_;unfold s50 r50;rw[tY]at J;(repeat' (first|(with_reducible (first|refine ae (λh=>?_) λh=>?_|refine af (λh=>?_) λh=>?_)<;>(try simp only[DZ]at h))|(with_reducible first|refine ab (f105 G _ I.2.1.1) ?_|refine ab (f105 G _ I.2.2.1.1) ?_|refine ab (ih x D.mem (I.2.2.2.2 x D.mem)) ?_)|simp only[EV,seval,D.yes,D.le0,D.lt',D.get,D.row,O]|simp only[EV,seval,N]|simp only[EV,seval]|(refine ak D () ?_ (dT _ _))|(refine ap (u.kids) (λi r (c:Unit)=>U.shortss u.kids=U.shortss r) (λi c=>[(1,.ref u.cs),(3,.i i)]) (λ_ _=>[]) () (by rfl) (dT _ _) (by omega) (λi x r c E D O=>?_) (λc E N=>?_))));(all_goals(first|(refine RET.eq J ?_;(refine congrArg AV.bool (Bool.eq_iff_iff.2 ?_);simp only[U.shortss,EVB]at*;omega))|(refine RET.eq J ?_;first|(simp only[U.shortss,E,h,EVC,decide_true,decide_false];done)|(simp_all[U.shortss];done))|(rw[E];simp only[U.shortss,h,EVC,decide_true,decide_false];done)))
def f17 (u:U) (m:Int) (D:u.fit) (E:0<=m) (I:m<=1000000):Pure G Tryz.prog 17 [.agg u.cs,.i m] (.bool (u.few m)):=by
 refine Pure.w c17 λR F=>?_;unfold s17 r17;(repeat' (first|(with_reducible (refine af (λh=>?_) λh=>?_)<;>(try simp only[DZ]at h))|(with_reducible first|refine ab (f49 G u 0 m D (by omega) (by omega) E I) ?_|refine ab (f50 G u D) ?_)|simp only[EV,seval]));(all_goals(first|(refine RET.eq F ?_;(refine congrArg AV.bool (Bool.eq_iff_iff.2 ?_);simp only[U.few,EVB]at*;omega))|(refine RET.eq F ?_;((simp_all[U.few];done)))))
def U.Tame (u:U):Prop:=u.fit/\u.flat.length<1000000
def sH {us:List U} {k:U} (h:k∈us):k.flat.length<=(U.flats us).length:=by
 induction us with
 |nil=>cases h
 |cons a us ih=>
  rw[U.flats,length_append]
  rcases mem_cons.1 h with rfl|h
  ·omega
  ·have:=ih h;omega
def U.flat_pos (u:U):1<=u.flat.length:=by rw[U.flat_eq];simp
def uC (us:List U):us.length<=(U.flats us).length:=by
 induction us with
 |nil=>simp
 |cons a us ih=>rw[U.flats,length_append,length_cons];have:=a.flat_pos;omega
def U.Tame.kid {u k:U} (h:u.Tame) (D:k∈u.kids):k.Tame:=by
 refine⟨((sj u).1 h.1).2.2.2.2 k D,?_⟩;have:=sH D;have E:=h.2;rw[U.flat_eq,length_cons]at E;omega
def U.Tame.kids {u:U} (h:u.Tame):u.kids.length<1000000:=by
 have:=uC u.kids;have D:=h.2;rw[U.flat_eq,length_cons]at D;omega
def U.cnt (u:U):Int:=u.flat.length
def U.cnts (us:List U):Int:=(U.flats us).length
def tv (u:U):u.cnt=1+U.cnts u.kids:=by unfold U.cnt U.cnts;rw[U.flat_eq,length_cons];omega
def tb (u:U) (us:List U):U.cnts (u::us)=u.cnt+U.cnts us:=by unfold U.cnt U.cnts;rw[U.flats,length_append];omega
def ti:U.cnts []=0:=rfl
def tH (us:List U):0<=U.cnts us:=by unfold U.cnts;omega
def ui (u:U):1<=u.cnt:=by have:=u.flat_pos;unfold U.cnt;omega
def f175:∀(u:U),u.Tame->Pure G Tryz.prog 175 [.agg u.cs] (.i u.cnt):=by
 refine U.ind λu ih I=>?_;have M:=I.kids;have T:=I.2;have F:(u.flat.length:Int)=u.cnt:=rfl;refine Pure.w c175 λR J=>?_;unfold s175 r175;rw[tv]at J F;(repeat' (first|(with_reducible refine ab (ih x D.mem (I.kid D.mem)) ?_)|simp only[EV,seval,D.yes,D.le0,D.lt',D.get,D.row,O]|simp only[EV,seval,N]|simp only[EV,seval]|(refine ap (ι:=Int) (u.kids) (λi r c=>1+U.cnts u.kids=c+U.cnts r/\1<=c) (λi c=>[(1,.ref u.cs),(3,.i c),(4,.i i)]) (λ_ _=>[]) (1) (by((simp;done))) (dT _ _) (by omega) (λi x r c E D O=>?_) (λc E N=>?_))|(refine ak D _ ?_ (dT _ _))))
 ·rw[tb]at E;have:=ui x;have:=tH r;rw[av (by omega) (by omega)];omega
 ·exact RET.eq J (by rw[E.1,ti];simp)
def f145:∀(u:U),u.Tame->Pure G Tryz.prog 145 [.agg u.cs] (.i u.cnt):=by
 refine U.ind λu ih I=>?_;have M:=I.kids;have T:=I.2;have F:(u.flat.length:Int)=u.cnt:=rfl;refine Pure.w c145 λR J=>?_;unfold s145 r145;rw[tv]at J F;(repeat' (first|(with_reducible refine ab (ih x D.mem (I.kid D.mem)) ?_)|simp only[EV,seval,D.yes,D.le0,D.lt',D.get,D.row,O]|simp only[EV,seval,N]|simp only[EV,seval]|(refine ap (ι:=Int) (u.kids) (λi r c=>1+U.cnts u.kids=c+U.cnts r/\1<=c) (λi c=>[(1,.ref u.cs),(3,.i c),(4,.i i)]) (λ_ _=>[]) (1) (by((simp;done))) (dT _ _) (by omega) (λi x r c E D O=>?_) (λc E N=>?_))|(refine ak D _ ?_ (dT _ _))))
 ·rw[tb]at E;have:=ui x;have:=tH r;rw[av (by omega) (by omega)];omega
 ·exact RET.eq J (by rw[E.1,ti];simp)
def U.dep (u:U):Int:=u.deep
def U.deps (us:List U):Int:=U.deeps us
def sv (u:U):u.dep=U.deps u.kids:=by unfold U.dep U.deps;rw[sf]
def sk (u:U) (us:List U):U.deps (u::us)=max (1+u.dep) (U.deps us):=by unfold U.dep U.deps;rw[U.deeps];omega
def sM:U.deps []=0:=rfl
def U.dep_ge (u:U):0<=u.dep:=by unfold U.dep;omega
def U.dep_cnt:∀u:U,u.dep<u.cnt:=by
 refine U.ind λu ih=>?_;rw[sv,tv]
 have key:∀us:List U,(∀k∈us,k.dep<k.cnt)->U.deps us<=U.cnts us:=by
  intro us
  induction us with
  |nil=>intro _;simp[sM,ti]
  |cons a us iha=>
   intro h;have E:=h a (by simp);have F:=iha λk D=>h k (by simp[D]);rw[sk,tb];have:=tH us;have:=ui a;omega
 have:=key u.kids ih;omega
def f174:∀(u:U),u.Tame->Pure G Tryz.prog 174 [.agg u.cs] (.i u.dep):=by
 refine U.ind λu ih F=>?_;have N:=F.kids
 have M:0<=U.deps u.kids:=by rw[←sv];exact u.dep_ge
 refine Pure.w c174 λR J=>?_;unfold s174 r174;rw[sv]at J;(repeat' (first|(with_reducible refine ab (ih x E.mem (F.kid E.mem)) ?_)|simp only[EV,seval,E.yes,E.le0,E.lt',E.get,E.row,T,I]|simp only[EV,seval,O]|simp only[EV,seval]|(refine ap (ι:=Int) (u.kids) (λi r c=>U.deps u.kids=max c (U.deps r)/\0<=c) (λi c=>[(1,.ref u.cs),(3,.i c),(4,.i i)]) (λ_ _=>[]) (0) (by((simp;omega))) (dT _ _) (by omega) (λi x r c D E T=>?_) (λc D O=>?_)<;>(try(have I:IntKind.i64.wrap (1+x.dep)=1+x.dep:=av (by have:=x.dep_ge;omega) (by have V:=x.dep_cnt;have X:=(F.kid E.mem).2;have Y:(x.flat.length:Int)=x.cnt:=rfl;omega))))|(refine ak E _ ?_ (dT _ _))|(refine RAW_max rfl rfl ?_)))
 ·rw[sk]at D;omega
 ·exact RET.eq J (by rw[D.1,sM,Int.max_eq_left D.2])
def f194:∀(u:U),u.Tame->Pure G Tryz.prog 194 [.agg u.cs] (.i u.dep):=by
 refine U.ind λu ih J=>?_;have V:=J.kids
 have T:0<=U.deps u.kids:=by rw[←sv];exact u.dep_ge
 refine Pure.w c194 λR N=>?_;unfold s194 r194;rw[sv]at N;(repeat' (first|(with_reducible refine ab (ih x E.mem (J.kid E.mem)) ?_)|simp only[EV,seval,E.yes,E.le0,E.lt',E.get,E.row,Z,M]|simp only[EV,seval,X]|simp only[EV,seval]|(with_reducible intro O F;(try(have I:=F;simp only[EVK]at I;(have Y:=I))))|(refine ap (ι:=Int) (u.kids) (λi r c=>U.deps u.kids=max c (U.deps r)/\0<=c) (λi c=>[(3,.i c),(7,.lst 8 (u.kids.map U.cs)),(8,.i u.kids.length),(9,.i i)]) (λ_ _=>[]) (0) (by((simp;omega))) (dT _ _) (by omega) (λi x r c D E Z=>?_) (λc D X=>?_)<;>(try(have M:IntKind.i64.wrap (1+x.dep)=1+x.dep:=av (by have:=x.dep_ge;omega) (by have h1:=x.dep_cnt;have h2:=(J.kid E.mem).2;have h3:(x.flat.length:Int)=x.cnt:=rfl;omega))))|(refine ak E _ ?_ (Weak.sub (SubN.nil _)))|(refine RAW_max rfl rfl ?_)))
 ·rw[sk]at D;omega
 ·exact RET.eq N (by rw[D.1,sM,Int.max_eq_left D.2])
end
def oc (a b:Idd):decide (a=b)=(decide (a.act=b.act)&&(decide (a.item=b.item)&&decide (a.n=b.n))):=by
 cases a;cases b
 rw[Bool.eq_iff_iff];simp
def U.dec (a b:U):decide (a=b)=((decide (a.id.act=b.id.act)&&(decide (a.id.item=b.id.item)&&decide (a.id.n=b.id.n)))&&(decide (a.kind=b.kind)&&(decide (a.label=b.label)&&(decide (a.head=b.head)&&(decide (a.words=b.words)&&decide (a.kids=b.kids)))))):=by
 rw[←oc]
 cases a;cases b
 rw[Bool.eq_iff_iff];simp
def or {α:Type} [DecidableEq α] {a b:List α} (h:a.length≠b.length):decide (a=b)=false:=by
 simp;rintro rfl;exact h rfl
def U.fit.kid {u k:U} (h:u.fit) (D:k∈u.kids):k.fit:=((sj u).1 h).2.2.2.2 k D
section
variable (G:Glob)
def f35:∀(a:U),a.fit->∀b:U,Pure G Tryz.prog 35 [.agg a.cs,.agg b.cs] (.bool (decide (a=b))):=by
 refine U.ind λa ih E b=>?_;have O:=(sj a).1 E;have T:=O.2.2.2.1;refine Pure.w c35 λR I=>?_;unfold s35 r35;rw[U.dec]at I;by_cases M:a.kids.length=b.kids.length
 ·have J:decide ((a.kids.length:Int)≠(b.kids.length:Int))=false:=by simp[M]
  (repeat' (first|(with_reducible (first|refine ae (λh=>?_) λh=>?_|refine af (λh=>?_) λh=>?_)<;>(try simp only[DZ]at h))|(with_reducible first|refine AI (by omega) ?_|refine ab (f36 G _ _ (by omega)) ?_|refine ab (ih x D.mem (E.kid D.mem) y) ?_)|simp only[EV,seval,J,D.yes,D.le0,D.lt',D.get,D.row,X,N.row,N.lt']|simp only[EV,seval,J,V]|simp only[EV,seval,J]|(with_reducible first|refine ag ?_ ?_|refine ai ?_)|(refine ak D () ?_ (dT _ _))|(refine ap (a.kids) (λi r (c:Unit)=>a.kids.length=b.kids.length/\decide (a.kids=b.kids)=decide (r=b.kids.drop i)) (λi c=>[(2,.ref a.cs),(3,.ref b.cs),(5,.i i)]) (λ_ _=>[]) () (by((simp[*];done))) (dT _ _) (by omega) (λi x r c F D X=>?_) (λc F V=>?_)<;>(try(obtain⟨y,r2,N,Y,F⟩:=cH F D)))));(all_goals(first|(refine RET.eq I ?_;(refine congrArg AV.bool (Bool.eq_iff_iff.2 ?_);simp only[M,EVB]at*;omega))|(refine RET.eq I ?_;((simp_all[M];done)))|(simp_all[M];done)))
 ·have J:decide ((a.kids.length:Int)≠(b.kids.length:Int))=true:=by simp;omega
  rw[or M]at I;(repeat' (first|(with_reducible (refine af (λh=>?_) λh=>?_)<;>(try simp only[DZ]at h))|(with_reducible refine ab (f36 G _ _ (by omega)) ?_)|simp only[EV,seval,J]));(all_goals(first|(refine RET.eq I ?_;(refine congrArg AV.bool (Bool.eq_iff_iff.2 ?_);simp only[EVB]at*;omega))|(refine RET.eq I ?_;((simp_all[];done)))))
def f269 (f:Value) (a b:List U) (ha:a.length<9000000000000000000) (Y:∀x∈a,∀y,gg G Tryz.prog f [.agg x.cs,.agg y.cs] (.bool (decide (x=y)))):
  Pure G Tryz.prog 269 [.lst 8 (a.map U.cs),.lst 8 (b.map U.cs),.sc f] (.bool (decide (a=b))):=by
 refine Pure.w c269 λR T=>?_
 unfold s269 r269
 by_cases N:a.length=b.length
 ·have J:decide ((a.length:Int)≠(b.length:Int))=false:=by simp[N]
  (repeat' (first|(with_reducible (refine ae (λh=>?_) λh=>?_)<;>(try simp only[DZ]at h))|(with_reducible refine AI (by omega) ?_)|simp only[EV,seval,J,D.yes,D.le0,D.lt',D.get,D.row,V,O.row,O.lt',E]|simp only[EV,seval,J,D.yes,D.le0,D.lt',D.get,D.row,V,O.row,O.lt']|simp only[EV,seval,J,Z]|simp only[EV,seval,J]|(with_reducible intro X M;(try(have F:=M;simp only[EVK]at F;first|(have E:=AI F E)|(have E:=F))))|(refine ak D () ?_ (Weak.sub (SubN.nil _)))|(refine aM (Y _ D.mem y) ?_)|(refine ap (a) (λi r (c:Unit)=>a.length=b.length/\decide (a=b)=decide (r=b.drop i)) (λi c=>[(1,.lst 8 (b.map U.cs)),(2,.sc f),(15,.lst 8 (a.map U.cs)),(16,.i a.length),(17,.i i)]) (λ_ _=>[]) () (by((simp[*];done))) (dT _ _) (by omega) (λi x r c I D V=>?_) (λc I Z=>?_)<;>(try(obtain⟨y,r2,O,aa,I⟩:=cH I D)))));(all_goals(first|(refine RET.eq T ?_;((simp_all[N];done)))|(simp_all[N];done)))
 ·have J:decide ((a.length:Int)≠(b.length:Int))=true:=by simp;omega
  rw[or N]at T;(repeat' (simp only[EV,seval,J]));(all_goals((exact RET.eq T rfl)))
def f169:∀(a:U),a.fit->∀b:U,Pure G Tryz.prog 169 [.agg a.cs,.agg b.cs] (.bool (decide (a=b))):=by
 refine U.ind λa ih D b=>?_;have I:=(sj a).1 D;have J:=I.2.2.2.1;refine Pure.w c169 λR E=>?_;unfold s169 r169;rw[U.dec]at E;(repeat' (first|(with_reducible (refine af (λh=>?_) λh=>?_)<;>(try simp only[DZ]at h))|(with_reducible first|refine ab (f268 G _ _ (by omega)) ?_|refine ab (f269 G _ _ _ (by omega) (λx F y=>(ih x F (D.kid F) y).v)) ?_)|simp only[EV,seval]));(all_goals(first|(refine RET.eq E ?_;(refine congrArg AV.bool (Bool.eq_iff_iff.2 ?_);simp only[EVB]at*;omega))|(refine RET.eq E ?_;((simp_all[];done)))))
end
end Go.Av
