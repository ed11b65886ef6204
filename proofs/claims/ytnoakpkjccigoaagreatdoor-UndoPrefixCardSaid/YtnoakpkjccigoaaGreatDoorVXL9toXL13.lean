/-
  LINT, 9: labels, addresses.
-/
import Derived.Test.YtnoakpkjccigoaaGreatDoorVXL7toXL8
import Derived.Test.YtnoakpkjccigoaaGreatDoorVShelf
import Derived.Shelf.Strings.FuncGrows
import Derived.Laws.RangeAny
import Derived.Lib.MinMax
namespace Go.Av
open Go Go.RowKit Go.Proofs List
set_option linter.unusedSimpArgs false
set_option linter.unusedVariables false
theorem W_listF {α ι:Type} {G:Glob} {P:Program} {a:SCode} {Q:Exit->Env->Store->Prop} {X:Tag Q} {env:Env} {σ:Store} (l:List α) (D:Nat) (ok:Nat->List α->ι->Prop) (st:Nat->ι->Env) (E:Nat->ι->Store) (c0:ι)
  (hi:D<=l.length) (T:ok D (l.drop D) c0) (V:Weak G env σ (st D c0) (E D c0)) (Y:l.length<9000000000000000000)
  (F:∀i x r c,ok i (x::r) c->Rest l i x r->IntKind.i64.wrap ((i:Int)+1)=((i+1:Nat):Int)->W G P a (NR (LK G l ok st E i) Q ⟨⟩ ⟨⟩) (st i c) (E i c) ⟨⟩)
  (I:∀c,ok l.length [] c->decide ((l.length:Int)<(l.length:Int))=false->W G P a (NR (LK G l ok st E l.length) Q ⟨⟩ ⟨⟩) (st l.length c) (E l.length c) ⟨⟩):W G P (.loop a) Q env σ X:=by
 refine jf (ι:=Nat×List α×ι) (λj=>l.drop j.1=j.2.1/\j.1<=l.length/\ok j.1 j.2.1 j.2.2) (λj=>l.length-j.1) (λj=>st j.1 j.2.2) (λj=>E j.1 j.2.2) (D,l.drop D,c0) ⟨rfl,hi,T⟩ V ?_
 rintro⟨i,r,c⟩ ⟨J,N,M⟩
 simp only at J N M ⊢
 cases r with
 |nil=>
  obtain rfl:=nt J N
  exact I c M (by simp)
 |cons x r=>
  have O:=gk J
  exact F i x r c M O (jE (by have:=O.lt;omega))
theorem eW (p:Nat->Bool) (J:∀n,128<=n->p n=true) (s:List UInt8):∀(f pos:Nat),pos<=s.length->s.length-pos<=f->
  Lib.idxFuncFrom p true ⟨⟨s⟩⟩ f pos=idxF (λc:UInt8=>p c.toNat) pos (s.drop pos)
 |0,pos,h1,h2=>by
  have:s.drop pos=[]:=drop_eq_nil_of_le (by omega)
  rw[this];rfl
 |f+1,pos,h1,h2=>by
  have M:(⟨⟨s⟩⟩:ByteArray).size=s.length:=rfl
  unfold Lib.idxFuncFrom
  rw[M]
  by_cases D:pos<s.length
  ·have E:pos<(⟨⟨s⟩⟩:ByteArray).size:=D
   have e:s.drop pos=s[pos]::s.drop (pos+1):=drop_eq_getElem_cons D
   have F:(⟨⟨s⟩⟩:ByteArray)[pos]'E=s[pos]:=rfl
   rw[if_pos D,e,idxF]
   by_cases N:(s[pos]).toNat<128
   ·have I:=decode_ascii (⟨⟨s⟩⟩:ByteArray) pos E (by rw[F];exact N)
    rw[I,F]
    cases O:p (s[pos]).toNat with
    |true=>simp
    |false=>simp;exact eW p J s f (pos+1) (by omega) (by omega)
   ·have I:=decode_high (⟨⟨s⟩⟩:ByteArray) pos E (by rw[F];omega)
    rw[J _ I.1,J _ (by omega)]
    simp
  ·rw[if_neg D,drop_eq_nil_of_le (by omega)]
   rfl
theorem nl {w w':World} (ev:Ev [] w [] w'):Below w.heap.size w w':=⟨ev.os,ev.tape,ev.output,ev.size,λk D=>(ev.block k D (by simp[Store.keys])).1⟩
section
variable (G:Glob)
theorem j0 {g:Nat} {p:Nat->Bool} {τ:Store} {w:World} (E:Sat G τ w) (I:∀n:Nat,Pure G Tryz.prog g [.int .i32 (n:Int)] (.bool (p n))):PredGrows Tryz.prog g #[] p w:=λW x J F=>by
 have:=(I x).2 τ W (#[encR x]++#[]) (by simpa using Sat.below E F) (by simp[RepL,Rep])
 refine this.mono ?_
 rintro e w' ⟨v,r,σ',rfl,⟨rfl,rfl⟩,_,ev,D⟩
 simp only[Rep]at D
 exact⟨by rw[D],nl ev⟩
theorem f267 (g:Nat) (p:Nat->Bool) (s:List UInt8) (F:∀args w,(callFunc g args).run Tryz.prog w= .ok (.enter g args) w) (N:∀n,128<=n->p n=true) (M:∀n:Nat,Pure G Tryz.prog g [.int .i32 (n:Int)] (.bool (p n))):
  Pure G Tryz.prog 267 [.str s,.sc (.func (.func g) #[] #[])] (.int .i64 (idxF (λc:UInt8=>p c.toNat) 0 s)):=by
 refine Pure.of_calls Tryz.func267 (by kernel_rfl) (by kernel_rfl) λτ w vs J I=>?_
 obtain⟨u,v,rfl,D,E⟩:=ji I
 simp only[Rep]at D E
 subst D E
 refine⟨.int .i64 (idxF (λc:UInt8=>p c.toNat) 0 s),λ_ _=>by simp only[Rep],?_⟩
 have h:=Any.strings_IndexFunc_grows Tryz.laysGw15 g #[] F p ⟨⟨s⟩⟩ w (j0 G J M)
 have e:Lib.idxFunc p true ⟨⟨s⟩⟩=idxF (λc:UInt8=>p c.toNat) 0 s:=eW p N s s.length 0 (by omega) (by omega)
 rw[e]at h
 exact h
theorem f219 (g:Nat) (p:Nat->Bool) (s:List UInt8) (F:∀args w,(callFunc g args).run Tryz.prog w= .ok (.enter g args) w) (N:∀n,128<=n->p n=true) (M:∀n:Nat,Pure G Tryz.prog g [.int .i32 (n:Int)] (.bool (p n))):
  Pure G Tryz.prog 219 [.str s,.sc (.func (.func g) #[] #[])] (.bool (s.any λc:UInt8=>p c.toNat)):=by
 refine Pure.of_calls Tryz.func219 (by kernel_rfl) (by kernel_rfl) λτ w vs J I=>?_
 obtain⟨u,v,rfl,D,E⟩:=ji I
 simp only[Rep]at D E
 subst D E
 refine⟨.bool (s.any λc:UInt8=>p c.toNat),λ_ _=>by simp only[Rep],?_⟩
 have h:=Any.strings_ContainsFunc_grows Tryz.laysGw17 g #[] F p ⟨⟨s⟩⟩ w (j0 G J M)
 have e:Lib.idxFunc p true ⟨⟨s⟩⟩=idxF (λc:UInt8=>p c.toNat) 0 s:=eW p N s s.length 0 (by omega) (by omega)
 rw[e,d7]at h
 exact h
def ik (n:Nat):Bool:=decide (n<48)||decide (57<n)
def jX (n:Nat):Bool:=decide (n<65)||decide (90<n)
theorem f268 (n:Nat):Pure G Tryz.prog 268 [.int .i32 (n:Int)] (.bool (ik n)):=by
 refine Pure.w c268 λR D=>?_
 unfold s268 r268
 (repeat' (first|(with_reducible (refine ai (λh=>?_) (λh=>?_))<;>(try simp only[DZ]at h))|simp only[EVz,seval,↓reduceIte,EV6,EV7]))
 (all_goals(((refine RET.eq D ?_;(refine congrArg AV.bool (Bool.eq_iff_iff.2 ?_);simp only[ik,EVB]at*;omega)))))
theorem f218 (n:Nat):Pure G Tryz.prog 218 [.int .i32 (n:Int)] (.bool (jX n)):=by
 refine Pure.w c218 λR D=>?_
 unfold s218 r218
 (repeat' (first|(with_reducible (refine ai (λh=>?_) (λh=>?_))<;>(try simp only[DZ]at h))|simp only[EVz,seval,↓reduceIte,EV6,EV7]))
 (all_goals(((refine RET.eq D ?_;(refine congrArg AV.bool (Bool.eq_iff_iff.2 ?_);simp only[jX,EVB]at*;omega)))))
theorem nI:∀(s:List UInt8) (i:Nat),idxF (λc:UInt8=>ik c.toNat) i s=if digN s<s.length then ((i+digN s:Nat):Int)else -1
 |[],i=>rfl
 |c::s,i=>by
  unfold idxF digN
  have E:ik c.toNat= !jC c:=by
   unfold ik jC
   rw[Bool.eq_iff_iff]
   simp<;>omega
  rw[E]
  cases h:jC c with
  |true=>
   simp only[Bool.not_true,if_true,Bool.false_eq_true,if_false]
   rw[nI s (i+1)]
   simp only[length_cons]
   by_cases D:digN s<s.length
   ·rw[if_pos D,if_pos (by omega)];congr 1;omega
   ·rw[if_neg D,if_neg (by omega)]
  |false=>simp
theorem any_up (s:List UInt8):(s.any λc:UInt8=>jX c.toNat)= !(s.all isUp):=by
 induction s with
 |nil=>rfl
 |cons c s ih=>
  rw[any_cons,all_cons,ih]
  have D:jX c.toNat= !isUp c:=by
   unfold jX isUp
   rw[Bool.eq_iff_iff]
   simp<;>omega
  rw[D]
  cases isUp c<;>simp
theorem f217 (s:List UInt8):Pure G Tryz.prog 217 [.str s] (.tup [.str (s.take (digN s)),.str (s.drop (digN s))]):=by
 refine Pure.w c217 λR E=>?_
 unfold s217 r217
 have F:=jO s
 have D:=f267 G 268 ik s (enters_of Tryz.func268 (by kernel_rfl) rfl) (λn I=>by simp[ik];omega) (λn=>f268 G n)
 rw[nI s 0,Nat.zero_add]at D
 by_cases h:digN s<s.length
 ·rw[if_pos h]at D
  (repeat' (first|(with_reducible (refine ab (λh=>?_) (λh=>?_))<;>(try simp only[DZ]at h))|(with_reducible first|refine AI (by omega) ?_|refine aa D ?_)|simp only[EVz,seval,↓reduceIte,EV6,EV7]|(exfalso;omega)))
  (all_goals(((refine RET.eq E ?_;((simp_all[];done))))))
 ·rw[if_neg h]at D
  have e:digN s=s.length:=by omega
  rw[e,take_length,drop_length]at E
  (repeat' (first|(with_reducible refine aa D ?_)|simp only[EVz,seval,↓reduceIte,EV6,EV7]))
  (all_goals((exact RET.eq E rfl)))
theorem f129 (s:List UInt8):Pure G Tryz.prog 129 [.str s] (.bool (br s)):=by
 refine Pure.w c129 λR F=>?_
 unfold s129 r129
 have I:=jO s
 have D:min (digN s) s.length=digN s:=Nat.min_eq_left I
 have E:=f219 G 218 jX (s.drop (digN s)) (enters_of Tryz.func218 (by kernel_rfl) rfl) (λn O=>by simp[jX];omega) (λn=>f218 G n)
 rw[any_up]at E
 by_cases N:1<=digN s
 ·have M:(s.take (digN s)).getD 0 0=s.getD 0 0:=by simp[List.getD,getElem?_take,show 0<digN s by omega]
  (repeat' (first|(with_reducible (refine ai (λh=>?_) (λh=>?_))<;>(try simp only[DZ]at h))|(with_reducible first|refine AI (by omega) ?_|refine aa (f217 G s) ?_|refine aa E ?_)|simp only[EVz,seval,↓reduceIte,EV6,EV7,length_take,length_drop,D,M,Bool.not_not]|(exfalso;omega)))
  (all_goals(first|(refine RET.eq F ?_;(refine congrArg AV.bool (Bool.eq_iff_iff.2 ?_);simp only[br,EVB]at*;omega))|(refine RET.eq F ?_;((simp_all[br];done)))))
 ·have J:br s=false:=by simp[br,show ¬((1:Int)<=digN s)by omega]
  rw[J]at F
  (repeat' (first|(with_reducible (refine ai (λh=>?_) (λh=>?_))<;>(try simp only[DZ]at h))|(with_reducible first|refine AI (by omega) ?_|refine aa (f217 G s) ?_|refine aa E ?_)|simp only[EVz,seval,↓reduceIte,EV6,EV7,length_take,length_drop,D]|(exfalso;omega)))
  (all_goals((exact RET.eq F rfl)))
theorem f78 (s:List UInt8) (N:s.length<1000000000000000000):Pure G Tryz.prog 78 [.str s] (.bool (br s)):=by
 refine Pure.w c78 λR J=>?_
 unfold s78 r78
 have F:=jO s
 have D:IntKind.i64.wrap ((s.length:Int)-(digN s:Int))=((s.length-digN s:Nat):Int):=by rw[aA (by omega) (by omega)];omega
 (repeat' (first|(with_reducible (first|refine ab (λh=>?_) (λh=>?_)|refine ai (λh=>?_) (λh=>?_))<;>(try simp only[DZ]at h))|(with_reducible first|refine AI (by omega) ?_|refine aa (f142 G s N) ?_)|simp only[EVz,seval,↓reduceIte,EV6,EV7,D,E.yes,E.le0,E.lt',E.get,E.row,O]|simp only[EVz,seval,↓reduceIte,EV6,EV7,D,M]|simp only[EVz,seval,↓reduceIte,EV6,EV7,D]|(refine ap E () ?_ (Weak.rfl' _ _))|(refine W_listF s (digN s) (λi r (c:Unit)=>(s.drop (digN s)).all isUp=r.all isUp) (λi c=>[(0,.str s),(4,.int .i64 i)]) (λ_ _=>[]) () F rfl (Weak.rfl' _ _) (by omega) (λi x r c I E O=>?_) (λc I M=>?_))))
 (all_goals(first|(refine RET.eq J ?_;(refine congrArg AV.bool (Bool.eq_iff_iff.2 ?_);simp only[br,isUp,EVB]at*;omega))|(refine RET.eq J ?_;first|(simp_all[br,isUp];done)|(simp_all[br,isUp];omega))|(simp_all[br,isUp];done)))
end
section
variable (G:Glob)
theorem f100 (p:List Stp) (V:p.length<1000000):Pure G Tryz.prog 100 [.lst 2 (p.map Stp.cs)] (.bool (dU p)):=by
 refine Pure.w c100 λR M=>?_
 unfold s100 r100
 (repeat' (first|(with_reducible (first|refine ab (λh=>?_) (λh=>?_)|refine ai (λh=>?_) (λh=>?_))<;>(try simp only[DZ]at h))|(with_reducible first|refine aa (f189 G _ _) ?_|refine aa (f129 G _) ?_)|simp only[EVz,seval,↓reduceIte,EV6,EV7,D.yes,D.le0,D.lt',D.get,D.row,T]|simp only[EVz,seval,↓reduceIte,EV6,EV7,N]|simp only[EVz,seval,↓reduceIte,EV6,EV7]|(with_reducible intro J E;(try(have F:=E;simp only[EVK]at F;(have O:=F))))|(refine ap D () ?_ (Weak.sub (SubN.nil _)))|(refine ay (p) (λi r (c:Unit)=>d8 0 p=d8 i r) (λi c=>[(0,.lst 2 (p.map Stp.cs)),(5,.lst 2 (p.map Stp.cs)),(6,.int .i64 p.length),(7,.int .i64 i)]) (λ_ _=>[]) () (by rfl) (Weak.rfl' _ _) (by omega) (λi x r c I D T=>?_) (λc I N=>?_))))
 (all_goals(first|(refine RET.eq M ?_;first|(simp only[dU,d8,i8,I,EVC,decide_true,decide_false];done)|(simp_all[dU,d8,i8];done)|(simp_all[dU,d8,i8];omega))|(simp_all[dU,d8,i8];done)|(simp_all[dU,d8,i8];omega)))
end
mutual
def U.size:U->Int->Int->Int
 |⟨_,_,_,_,_,ks⟩,d,m=>if 20<d then m+1 else U.sizes ks d m 1
def U.sizes:List U->Int->Int->Int->Int
 |[],_,_,n=>n
 |u::us,d,m,n=>if n<=m then U.sizes us d m (n+U.size u (d+1) (m-n))else n
end
theorem U.size_eq (u:U) (d m:Int):u.size d m=if 20<d then m+1 else U.sizes u.kids d m 1:=by cases u;rw[U.size]
theorem U.size_ok:∀(u:U) (d m:Int),0<=m->1<=u.size d m/\u.size d m<=m+1/\(u.size d m<=m->d<=20/\(u.flat.length:Int)=u.size d m):=by
 refine U.ind λu ih d m hm=>?_
 rw[U.size_eq]
 split
 ·exact⟨by omega,by omega,by omega⟩
 ·rename_i Z
  have key:∀(us:List U) (n:Int),(∀k∈us,k∈u.kids)->1<=n->n<=m+1->n<=U.sizes us d m n/\U.sizes us d m n<=m+1/\(U.sizes us d m n<=m->n+((U.flats us).length:Int)=U.sizes us d m n):=by
   intro us
   induction us with
   |nil=>intro n _ J M;simp[U.sizes,U.flats];omega
   |cons k us ihu=>
    intro n D J M
    rw[U.sizes]
    split
    ·rename_i hn
     obtain⟨V,X,E⟩:=ih k (D k (by simp)) (d+1) (m-n) (by omega)
     obtain⟨Y,F,I⟩:=ihu (n+k.size (d+1) (m-n)) (λq N=>D q (by simp[N])) (by omega) (by omega)
     refine⟨by omega,F,λh=>?_⟩
     have c1:=(E (by omega)).2
     have c2:=I h
     rw[U.flats,length_append]
     omega
    ·exact⟨by omega,by omega,by omega⟩
  obtain⟨k1,O,T⟩:=key u.kids 1 (λ_ h=>h) (by omega) (by omega)
  refine⟨by omega,O,λh=>⟨by omega,?_⟩⟩
  have:=T h
  rw[U.flat_eq,length_cons]
  omega
def eR (l:List Wd):Bool:=(l.all λw=>decide ((w.text.length:Int)<=100))&&decide ((l.length:Int)<=300)
mutual
def U.shorts:U->Bool
 |⟨_,_,l,h,w,ks⟩=>decide ((l.length:Int)<=30)&&(eR h&&(eR w&&U.shortss ks))
def U.shortss:List U->Bool
 |[]=>true
 |u::us=>U.shorts u&&U.shortss us
end
theorem U.shorts_eq (u:U):u.shorts=(decide ((u.label.length:Int)<=30)&&(eR u.head&&(eR u.words&&U.shortss u.kids))):=by cases u;rw[U.shorts]
def U.few (u:U) (m:Int):Bool:=decide (u.size 0 m<=m)&&u.shorts
section
variable {G:Glob} {P:Program}
theorem RAW_max {a b:Int} {i j:Nat} {t V:TypeId} {env:Env} {σ:Store} {K:AV->Store->Prop} (hi:env.get i= .int .i64 a) (N:env.get j= .int .i64 b) (O:K (.int .i64 (max a b)) σ):
  RAW G P (.call (.mk (.builtin .max) #[.tmp i,.tmp j] #[t,V])) env σ K ⟨⟩:=by
 refine cW _ (λρ w F op T X I=>?_) O
 have D:=I i
 have E:=I j
 rw[hi]at D
 rw[N]at E
 simp only[Rep]at D E
 refine⟨.int .i64 (max a b),?_,by simp only[Rep]⟩
 have J:F.eval (.tmp i)= .int .i64 a:=D
 have M:F.eval (.tmp j)= .int .i64 b:=E
 simp[execOp,T,resolve,invoke,builtin,J,M,Lib.run_max_ints]
end
mutual
def U.fit:U->Prop
 |⟨_,_,l,h,w,ks⟩=>l.length<1000000000000000000/\(h.length<1000000000000000000/\∀x∈h,x.text.length<1000000000000000000)/\(w.length<1000000000000000000/\∀x∈w,x.text.length<1000000000000000000)/\ks.length<1000000000000000000/\U.fits ks
def U.fits:List U->Prop
 |[]=>True
 |u::us=>U.fit u/\U.fits us
end
theorem U.fits_iff:∀{us:List U},U.fits us↔∀k∈us,k.fit
 |[]=>by simp[U.fits]
 |u::us=>by simp[U.fits,U.fits_iff (us:=us)]
theorem U.fit_eq (u:U):u.fit↔u.label.length<1000000000000000000/\(u.head.length<1000000000000000000/\∀x∈u.head,x.text.length<1000000000000000000)/\(u.words.length<1000000000000000000/\∀x∈u.words,x.text.length<1000000000000000000)/\u.kids.length<1000000000000000000/\∀k∈u.kids,k.fit:=by
 cases u
 rw[U.fit,U.fits_iff]
section
variable (G:Glob)
theorem f24:∀(u:U) (d m:Int),u.fit->0<=d->d<=1000->0<=m->m<=1000000->Pure G Tryz.prog 24 [.agg u.cs,.int .i64 d,.int .i64 m] (.int .i64 (u.size d m)):=by
 refine U.ind λu ih d m J T V Y Z=>?_
 have O:=(U.fit_eq u).1 J
 have X:=O.2.2.2.1
 refine Pure.w c24 λR M=>?_
 unfold s24 r24
 have I:IntKind.i64.wrap (m+1)=m+1:=aA (by omega) (by omega)
 have F:IntKind.i64.wrap (d+1)=d+1:=aA (by omega) (by omega)
 rw[U.size_eq]at M
 (repeat' (first|(with_reducible (refine ab (λh=>?_) (λh=>?_))<;>(try simp only[DZ]at h))|(with_reducible refine aa (ih x E.mem (d+1) (m-c) (O.2.2.2.2 x E.mem) (by omega) (by omega) (by omega) (by omega)) ?_)|simp only[EVz,seval,↓reduceIte,EV6,EV7,I,F,E.yes,E.le0,E.lt',E.get,E.row,hw,N]|simp only[EVz,seval,↓reduceIte,EV6,EV7,I,F,hn]|simp only[EVz,seval,↓reduceIte,EV6,EV7,I,F]|(refine ay (ι:=Int) (u.kids) (λi r c=>U.sizes u.kids d m 1=U.sizes r d m c/\1<=c/\c<=m+1) (λi c=>[(1,.int .i64 d),(2,.int .i64 m),(3,.ref u.cs),(7,.int .i64 c),(8,.int .i64 i)]) (λ_ _=>[]) (1) (by((simp;omega))) (Weak.rfl' _ _) (by omega) (λi x r c D E hw=>?_) (λc D hn=>?_)<;>(try(have N:IntKind.i64.wrap (m-c)=m-c:=aA (by omega) (by omega))))|(refine ap E _ ?_ (Weak.rfl' _ _))))
 ·exact RET.eq M (by rw[if_pos h])
 ·obtain⟨a1,a2,a3⟩:=U.size_ok x (d+1) (m-c) (by omega)
  have e:IntKind.i64.wrap (c+x.size (d+1) (m-c))=c+x.size (d+1) (m-c):=aA (by omega) (by omega)
  rw[e]
  refine⟨?_,by omega,by omega⟩
  rw[D.1,U.sizes,if_pos h]
 ·exact RET.eq M (by rw[if_neg (by omega),D.1,U.sizes,if_neg (by omega)])
 ·exact RET.eq M (by rw[if_neg (by omega),D.1,U.sizes])
theorem f50 (l:List Wd) (M:l.length<1000000000000000000):Pure G Tryz.prog 50 [.lst 4 (l.map Wd.cs)] (.bool (eR l)):=by
 refine Pure.w c50 λR F=>?_
 unfold s50 r50
 (repeat' (first|(with_reducible (refine ab (λh=>?_) (λh=>?_))<;>(try simp only[DZ]at h))|simp only[EVz,seval,↓reduceIte,EV6,EV7,E.yes,E.le0,E.lt',E.get,E.row,J]|simp only[EVz,seval,↓reduceIte,EV6,EV7,I]|simp only[EVz,seval,↓reduceIte,EV6,EV7]|(refine ap E () ?_ (Weak.rfl' _ _))|(refine ay (l) (λi r (c:Unit)=>(l.all λw=>decide ((w.text.length:Int)<=100))=r.all λw=>decide ((w.text.length:Int)<=100)) (λi c=>[(0,.lst 4 (l.map Wd.cs)),(3,.int .i64 i)]) (λ_ _=>[]) () (by rfl) (Weak.rfl' _ _) (by omega) (λi x r c D E J=>?_) (λc D I=>?_))))
 (all_goals(first|(refine RET.eq F ?_;first|(simp only[eR,D,EVC,decide_true,decide_false];done)|(simp_all[eR];omega))|(rw[D];simp only[eR,h,EVC,decide_true,decide_false];done)))
theorem f25:∀(u:U),u.fit->Pure G Tryz.prog 25 [.agg u.cs] (.bool u.shorts):=by
 refine U.ind λu ih F=>?_
 have I:=(U.fit_eq u).1 F
 have M:=I.2.2.2.1
 refine Pure.w c25 λR J=>?_
 unfold s25 r25
 rw[U.shorts_eq]at J
 (repeat' (first|(with_reducible (first|refine ab (λh=>?_) (λh=>?_)|refine ai (λh=>?_) (λh=>?_))<;>(try simp only[DZ]at h))|(with_reducible first|refine aa (f50 G _ I.2.1.1) ?_|refine aa (f50 G _ I.2.2.1.1) ?_|refine aa (ih x D.mem (I.2.2.2.2 x D.mem)) ?_)|simp only[EVz,seval,↓reduceIte,EV6,EV7,D.yes,D.le0,D.lt',D.get,D.row,O]|simp only[EVz,seval,↓reduceIte,EV6,EV7,N]|simp only[EVz,seval,↓reduceIte,EV6,EV7]|(refine ap D () ?_ (Weak.rfl' _ _))|(refine ay (u.kids) (λi r (c:Unit)=>U.shortss u.kids=U.shortss r) (λi c=>[(1,.ref u.cs),(3,.int .i64 i)]) (λ_ _=>[]) () (by rfl) (Weak.rfl' _ _) (by omega) (λi x r c E D O=>?_) (λc E N=>?_))))
 (all_goals(first|(refine RET.eq J ?_;(refine congrArg AV.bool (Bool.eq_iff_iff.2 ?_);simp only[U.shortss,EVB]at*;omega))|(refine RET.eq J ?_;first|(simp only[U.shortss,E,h,EVC,decide_true,decide_false];done)|(simp_all[U.shortss];done))|(rw[E];simp only[U.shortss,h,EVC,decide_true,decide_false];done)))
theorem f9 (u:U) (m:Int) (D:u.fit) (E:0<=m) (I:m<=1000000):Pure G Tryz.prog 9 [.agg u.cs,.int .i64 m] (.bool (u.few m)):=by
 refine Pure.w c9 λR F=>?_
 unfold s9 r9
 (repeat' (first|(with_reducible (refine ai (λh=>?_) (λh=>?_))<;>(try simp only[DZ]at h))|(with_reducible first|refine aa (f24 G u 0 m D (by omega) (by omega) E I) ?_|refine aa (f25 G u D) ?_)|simp only[EVz,seval,↓reduceIte,EV6,EV7]))
 (all_goals(first|(refine RET.eq F ?_;(refine congrArg AV.bool (Bool.eq_iff_iff.2 ?_);simp only[U.few,EVB]at*;omega))|(refine RET.eq F ?_;((simp_all[U.few];done)))))
def U.Tame (u:U):Prop:=u.fit/\u.flat.length<1000000
theorem U.flats_mem {us:List U} {k:U} (h:k∈us):k.flat.length<=(U.flats us).length:=by
 induction us with
 |nil=>cases h
 |cons a us ih=>
  rw[U.flats,length_append]
  rcases mem_cons.1 h with rfl|h
  ·omega
  ·have:=ih h;omega
theorem U.flat_pos (u:U):1<=u.flat.length:=by rw[U.flat_eq];simp
theorem U.flats_len (us:List U):us.length<=(U.flats us).length:=by
 induction us with
 |nil=>simp
 |cons a us ih=>rw[U.flats,length_append,length_cons];have:=a.flat_pos;omega
theorem U.Tame.kid {u k:U} (h:u.Tame) (D:k∈u.kids):k.Tame:=by
 refine⟨((U.fit_eq u).1 h.1).2.2.2.2 k D,?_⟩
 have:=U.flats_mem D
 have E:=h.2
 rw[U.flat_eq,length_cons]at E
 omega
theorem U.Tame.kids {u:U} (h:u.Tame):u.kids.length<1000000:=by
 have:=U.flats_len u.kids
 have D:=h.2
 rw[U.flat_eq,length_cons]at D
 omega
def U.cnt (u:U):Int:=u.flat.length
def U.cnts (us:List U):Int:=(U.flats us).length
theorem U.cnt_eq (u:U):u.cnt=1+U.cnts u.kids:=by unfold U.cnt U.cnts;rw[U.flat_eq,length_cons];omega
theorem U.cnts_cons (u:U) (us:List U):U.cnts (u::us)=u.cnt+U.cnts us:=by unfold U.cnt U.cnts;rw[U.flats,length_append];omega
theorem U.cnts_nil:U.cnts []=0:=rfl
theorem U.cnts_ge (us:List U):0<=U.cnts us:=by unfold U.cnts;omega
theorem U.cnt_ge (u:U):1<=u.cnt:=by have:=u.flat_pos;unfold U.cnt;omega
theorem f138:∀(u:U),u.Tame->Pure G Tryz.prog 138 [.agg u.cs] (.int .i64 u.cnt):=by
 refine U.ind λu ih I=>?_
 have M:=I.kids
 have T:=I.2
 have F:(u.flat.length:Int)=u.cnt:=rfl
 refine Pure.w c138 λR J=>?_
 unfold s138 r138
 rw[U.cnt_eq]at J F
 (repeat' (first|(with_reducible refine aa (ih x D.mem (I.kid D.mem)) ?_)|simp only[EVz,seval,↓reduceIte,EV6,EV7,D.yes,D.le0,D.lt',D.get,D.row,O]|simp only[EVz,seval,↓reduceIte,EV6,EV7,N]|simp only[EVz,seval,↓reduceIte,EV6,EV7]|(refine ay (ι:=Int) (u.kids) (λi r c=>1+U.cnts u.kids=c+U.cnts r/\1<=c) (λi c=>[(1,.ref u.cs),(3,.int .i64 c),(4,.int .i64 i)]) (λ_ _=>[]) (1) (by((simp;done))) (Weak.rfl' _ _) (by omega) (λi x r c E D O=>?_) (λc E N=>?_))|(refine ap D _ ?_ (Weak.rfl' _ _))))
 ·rw[U.cnts_cons]at E
  have:=U.cnt_ge x
  have:=U.cnts_ge r
  rw[aA (by omega) (by omega)]
  omega
 ·exact RET.eq J (by rw[E.1,U.cnts_nil];simp)
def U.dep (u:U):Int:=u.deep
def U.deps (us:List U):Int:=U.deeps us
theorem U.dep_eq (u:U):u.dep=U.deps u.kids:=by unfold U.dep U.deps;rw[U.deep_eq]
theorem U.deps_cons (u:U) (us:List U):U.deps (u::us)=max (1+u.dep) (U.deps us):=by unfold U.dep U.deps;rw[U.deeps];omega
theorem U.deps_nil:U.deps []=0:=rfl
theorem U.dep_ge (u:U):0<=u.dep:=by unfold U.dep;omega
theorem U.dep_cnt:∀u:U,u.dep<u.cnt:=by
 refine U.ind λu ih=>?_
 rw[U.dep_eq,U.cnt_eq]
 have key:∀us:List U,(∀k∈us,k.dep<k.cnt)->U.deps us<=U.cnts us:=by
  intro us
  induction us with
  |nil=>intro _;simp[U.deps_nil,U.cnts_nil]
  |cons a us iha=>
   intro h
   have E:=h a (by simp)
   have F:=iha λk D=>h k (by simp[D])
   rw[U.deps_cons,U.cnts_cons]
   have:=U.cnts_ge us
   have:=U.cnt_ge a
   omega
 have:=key u.kids ih
 omega
theorem f77:∀(u:U),u.Tame->Pure G Tryz.prog 77 [.agg u.cs] (.int .i64 u.dep):=by
 refine U.ind λu ih F=>?_
 have N:=F.kids
 have M:0<=U.deps u.kids:=by rw[←U.dep_eq];exact u.dep_ge
 refine Pure.w c77 λR J=>?_
 unfold s77 r77
 rw[U.dep_eq]at J
 (repeat' (first|(with_reducible refine aa (ih x E.mem (F.kid E.mem)) ?_)|simp only[EVz,seval,↓reduceIte,EV6,EV7,E.yes,E.le0,E.lt',E.get,E.row,T,I]|simp only[EVz,seval,↓reduceIte,EV6,EV7,O]|simp only[EVz,seval,↓reduceIte,EV6,EV7]|(refine ay (ι:=Int) (u.kids) (λi r c=>U.deps u.kids=max c (U.deps r)/\0<=c) (λi c=>[(1,.ref u.cs),(3,.int .i64 c),(4,.int .i64 i)]) (λ_ _=>[]) (0) (by((simp;omega))) (Weak.rfl' _ _) (by omega) (λi x r c D E T=>?_) (λc D O=>?_)<;>(try(have I:IntKind.i64.wrap (1+x.dep)=1+x.dep:=aA (by have:=x.dep_ge;omega) (by have V:=x.dep_cnt;have X:=(F.kid E.mem).2;have Y:(x.flat.length:Int)=x.cnt:=rfl;omega))))|(refine ap E _ ?_ (Weak.rfl' _ _))|(refine RAW_max rfl rfl ?_)))
 ·rw[U.deps_cons]at D;omega
 ·exact RET.eq J (by rw[D.1,U.deps_nil,Int.max_eq_left D.2])
theorem f125:∀(u:U),u.Tame->Pure G Tryz.prog 125 [.agg u.cs] (.int .i64 u.dep):=by
 refine U.ind λu ih J=>?_
 have V:=J.kids
 have T:0<=U.deps u.kids:=by rw[←U.dep_eq];exact u.dep_ge
 refine Pure.w c125 λR N=>?_
 unfold s125 r125
 rw[U.dep_eq]at N
 (repeat' (first|(with_reducible refine aa (ih x E.mem (J.kid E.mem)) ?_)|simp only[EVz,seval,↓reduceIte,EV6,EV7,E.yes,E.le0,E.lt',E.get,E.row,Z,M]|simp only[EVz,seval,↓reduceIte,EV6,EV7,X]|simp only[EVz,seval,↓reduceIte,EV6,EV7]|(with_reducible intro O F;(try(have I:=F;simp only[EVK]at I;(have Y:=I))))|(refine ay (ι:=Int) (u.kids) (λi r c=>U.deps u.kids=max c (U.deps r)/\0<=c) (λi c=>[(3,.int .i64 c),(7,.lst 8 (u.kids.map U.cs)),(8,.int .i64 u.kids.length),(9,.int .i64 i)]) (λ_ _=>[]) (0) (by((simp;omega))) (Weak.rfl' _ _) (by omega) (λi x r c D E Z=>?_) (λc D X=>?_)<;>(try(have M:IntKind.i64.wrap (1+x.dep)=1+x.dep:=aA (by have:=x.dep_ge;omega) (by have h1:=x.dep_cnt;have h2:=(J.kid E.mem).2;have h3:(x.flat.length:Int)=x.cnt:=rfl;omega))))|(refine ap E _ ?_ (Weak.sub (SubN.nil _)))|(refine RAW_max rfl rfl ?_)))
 ·rw[U.deps_cons]at D;omega
 ·exact RET.eq N (by rw[D.1,U.deps_nil,Int.max_eq_left D.2])
end
theorem mu (a b:Idd):decide (a=b)=(decide (a.act=b.act)&&(decide (a.item=b.item)&&decide (a.n=b.n))):=by
 cases a;cases b
 rw[Bool.eq_iff_iff];simp
theorem U.dec (a b:U):decide (a=b)=((decide (a.id.act=b.id.act)&&(decide (a.id.item=b.id.item)&&decide (a.id.n=b.id.n)))&&(decide (a.kind=b.kind)&&(decide (a.label=b.label)&&(decide (a.head=b.head)&&(decide (a.words=b.words)&&decide (a.kids=b.kids)))))):=by
 rw[←mu]
 cases a;cases b
 rw[Bool.eq_iff_iff];simp
theorem mD {α:Type} [DecidableEq α] {a b:List α} (h:a.length≠b.length):decide (a=b)=false:=by
 simp;rintro rfl;exact h rfl
theorem U.fit.kid {u k:U} (h:u.fit) (D:k∈u.kids):k.fit:=((U.fit_eq u).1 h).2.2.2.2 k D
section
variable (G:Glob)
theorem f16:∀(a:U),a.fit->∀b:U,Pure G Tryz.prog 16 [.agg a.cs,.agg b.cs] (.bool (decide (a=b))):=by
 refine U.ind λa ih E b=>?_
 have O:=(U.fit_eq a).1 E
 have T:=O.2.2.2.1
 refine Pure.w c16 λR I=>?_
 unfold s16 r16
 rw[U.dec]at I
 by_cases M:a.kids.length=b.kids.length
 ·have J:decide ((a.kids.length:Int)≠(b.kids.length:Int))=false:=by simp[M]
  (repeat' (first|(with_reducible (first|refine ab (λh=>?_) (λh=>?_)|refine ai (λh=>?_) (λh=>?_))<;>(try simp only[DZ]at h))|(with_reducible first|refine AI (by omega) ?_|refine aa (f42 G _ _ (by omega)) ?_|refine aa (ih x D.mem (E.kid D.mem) y) ?_)|simp only[EVz,seval,↓reduceIte,EV6,EV7,J,D.yes,D.le0,D.lt',D.get,D.row,X,N.row,N.lt']|simp only[EVz,seval,↓reduceIte,EV6,EV7,J,V]|simp only[EVz,seval,↓reduceIte,EV6,EV7,J]|(with_reducible first|refine ae ?_ ?_|refine af ?_)|(refine ap D () ?_ (Weak.rfl' _ _))|(refine ay (a.kids) (λi r (c:Unit)=>a.kids.length=b.kids.length/\decide (a.kids=b.kids)=decide (r=b.kids.drop i)) (λi c=>[(2,.ref a.cs),(3,.ref b.cs),(5,.int .i64 i)]) (λ_ _=>[]) () (by((simp[*];done))) (Weak.rfl' _ _) (by omega) (λi x r c F D X=>?_) (λc F V=>?_)<;>(try(obtain⟨y,r2,N,Y,F⟩:=dv F D)))))
  (all_goals(first|(refine RET.eq I ?_;(refine congrArg AV.bool (Bool.eq_iff_iff.2 ?_);simp only[M,EVB]at*;omega))|(refine RET.eq I ?_;((simp_all[M];done)))|(simp_all[M];done)))
 ·have J:decide ((a.kids.length:Int)≠(b.kids.length:Int))=true:=by simp;omega
  rw[mD M]at I
  (repeat' (first|(with_reducible (refine ai (λh=>?_) (λh=>?_))<;>(try simp only[DZ]at h))|(with_reducible refine aa (f42 G _ _ (by omega)) ?_)|simp only[EVz,seval,↓reduceIte,EV6,EV7,J]))
  (all_goals(first|(refine RET.eq I ?_;(refine congrArg AV.bool (Bool.eq_iff_iff.2 ?_);simp only[EVB]at*;omega))|(refine RET.eq I ?_;((simp_all[];done)))))
theorem f258 (f:Value) (a b:List U) (ha:a.length<9000000000000000000) (Y:∀x∈a,∀y,eZ G Tryz.prog f [.agg x.cs,.agg y.cs] (.bool (decide (x=y)))):
  Pure G Tryz.prog 258 [.lst 8 (a.map U.cs),.lst 8 (b.map U.cs),.sc f] (.bool (decide (a=b))):=by
 refine Pure.w c258 λR T=>?_
 unfold s258 r258
 by_cases N:a.length=b.length
 ·have J:decide ((a.length:Int)≠(b.length:Int))=false:=by simp[N]
  (repeat' (first|(with_reducible (refine ab (λh=>?_) (λh=>?_))<;>(try simp only[DZ]at h))|(with_reducible refine AI (by omega) ?_)|simp only[EVz,seval,↓reduceIte,EV6,EV7,J,D.yes,D.le0,D.lt',D.get,D.row,V,O.row,O.lt',E]|simp only[EVz,seval,↓reduceIte,EV6,EV7,J,D.yes,D.le0,D.lt',D.get,D.row,V,O.row,O.lt']|simp only[EVz,seval,↓reduceIte,EV6,EV7,J,Z]|simp only[EVz,seval,↓reduceIte,EV6,EV7,J]|(with_reducible intro X M;(try(have F:=M;simp only[EVK]at F;first|(have E:=AI F E)|(have E:=F))))|(refine ap D () ?_ (Weak.sub (SubN.nil _)))|(refine aI (Y _ D.mem y) ?_)|(refine ay (a) (λi r (c:Unit)=>a.length=b.length/\decide (a=b)=decide (r=b.drop i)) (λi c=>[(1,.lst 8 (b.map U.cs)),(2,.sc f),(15,.lst 8 (a.map U.cs)),(16,.int .i64 a.length),(17,.int .i64 i)]) (λ_ _=>[]) () (by((simp[*];done))) (Weak.rfl' _ _) (by omega) (λi x r c I D V=>?_) (λc I Z=>?_)<;>(try(obtain⟨y,r2,O,ac,I⟩:=dv I D)))))
  (all_goals(first|(refine RET.eq T ?_;((simp_all[N];done)))|(simp_all[N];done)))
 ·have J:decide ((a.length:Int)≠(b.length:Int))=true:=by simp;omega
  rw[mD N]at T
  (repeat' (simp only[EVz,seval,↓reduceIte,EV6,EV7,J]))
  (all_goals((exact RET.eq T rfl)))
theorem f193:∀(a:U),a.fit->∀b:U,Pure G Tryz.prog 193 [.agg a.cs,.agg b.cs] (.bool (decide (a=b))):=by
 refine U.ind λa ih D b=>?_
 have I:=(U.fit_eq a).1 D
 have J:=I.2.2.2.1
 refine Pure.w c193 λR E=>?_
 unfold s193 r193
 rw[U.dec]at E
 (repeat' (first|(with_reducible (refine ai (λh=>?_) (λh=>?_))<;>(try simp only[DZ]at h))|(with_reducible first|refine aa (f257 G _ _ (by omega)) ?_|refine aa (f258 G _ _ _ (by omega) (λx F y=>(ih x F (D.kid F) y).v)) ?_)|simp only[EVz,seval,↓reduceIte,EV6,EV7]))
 (all_goals(first|(refine RET.eq E ?_;(refine congrArg AV.bool (Bool.eq_iff_iff.2 ?_);simp only[EVB]at*;omega))|(refine RET.eq E ?_;((simp_all[];done)))))
end
theorem p6 {e:TypeId} {sz bytes m m':Nat} {σ:Store} {g:Option Nat} {rows ys:List (List AV)} {K:AV->Store->Prop} (F:∀d,g=some d->σ.get d=some (.tok e m)) (J:m=rows.length*sz) (E:m'=(rows++ys).length*sz)
  (M:(rows.length+ys.length)*bytes<=140737488355328) (I:∀D,K (.own D e sz (rows++ys)) (tokS D e m')):appX e sz bytes σ g rows ys K:=by
 subst J E
 exact fM [] F M (SubN.nil _) (λD _=>by simpa using I D)
/-! ### an inner loop over the first elements of a list -/
structure RestT {α:Type} (l:List α) (i k:Nat) (y:α):Prop where
 lt:k<i
 lt':(k:Int)<(l.length:Int)
 yes:decide ((k:Int)<(i:Int))=true
 le0:(0:Int)<=(k:Int)
 row:∀{β:Type} (f:α->β) (d:β),(l.map f).getD k d=f y
 mem:y∈l.take i
 take:l.take (k+1)=l.take k++[y]
def LT {ι:Type} (G:Glob) (i:Nat) (ok:Nat->ι->Prop) (st:Nat->ι->Env) (D:Nat->ι->Store) (k:Nat):Env->Store->Prop:=
 λenv σ=>∃j:Nat×ι,(j.1<=i/\ok j.1 j.2)/\i-j.1<i-k/\Weak G env σ (st j.1 j.2) (D j.1 j.2)
theorem qz {α ι:Type} {G:Glob} {l:List α} {i k:Nat} {y:α} {ok:Nat->ι->Prop} {st:Nat->ι->Env} {E:Nat->ι->Store} {env:Env} {σ:Store} (D:RestT l i k y) (c:ι) (h:ok (k+1) c) (F:Weak G env σ (st (k+1) c) (E (k+1) c)):
  LT G i ok st E k env σ:=⟨(k+1,c),⟨D.lt,h⟩,by have:=D.lt;show i-(k+1)<i-k;omega,F⟩
theorem W_take {α ι:Type} {G:Glob} {P:Program} {a:SCode} {Q:Exit->Env->Store->Prop} {T:Tag Q} {env:Env} {σ:Store} (l:List α) (i:Nat) (hi:i<=l.length) (ok:Nat->ι->Prop) (st:Nat->ι->Env) (D:Nat->ι->Store) (c0:ι)
  (M:ok 0 c0) (O:Weak G env σ (st 0 c0) (D 0 c0)) (V:i<9000000000000000000)
  (F:∀k y c,ok k c->RestT l i k y->IntKind.i64.wrap ((k:Int)+1)=((k+1:Nat):Int)->W G P a (NR (LT G i ok st D k) Q ⟨⟩ ⟨⟩) (st k c) (D k c) ⟨⟩)
  (I:∀c,ok i c->decide ((i:Int)<(i:Int))=false->W G P a (NR (LT G i ok st D i) Q ⟨⟩ ⟨⟩) (st i c) (D i c) ⟨⟩):W G P (.loop a) Q env σ T:=by
 refine jf (ι:=Nat×ι) (λj=>j.1<=i/\ok j.1 j.2) (λj=>i-j.1) (λj=>st j.1 j.2) (λj=>D j.1 j.2) (0,c0) ⟨Nat.zero_le _,M⟩ O ?_
 rintro⟨k,c⟩ ⟨N,J⟩
 simp only at N J ⊢
 rcases Nat.lt_or_ge k i with hk|hk
 ·have E:k<l.length:=by omega
  refine F k l[k] c J ⟨hk,by omega,by simpa using hk,by omega,λf d=>by simp[E],?_,take_succ_eq_append_getElem E⟩ (jE (by omega))
  exact mem_iff_getElem.2 ⟨k,by simp;omega,by simp⟩
 ·obtain rfl:k=i:=by omega
  exact I c J (by simp)
theorem qS {α:Type} {l:List α} {i:Nat} {x:α} {r:List α} (I:Rest l i x r) (D:l.Nodup):¬x∈l.take i:=by
 intro F
 have E:(l.take (i+1)).Nodup:=D.sublist (take_sublist (i+1) l)
 rw[I.take]at E
 exact(nodup_append.1 E).2.2 x F x (by simp) rfl
def U.ids (u:U):List Idd:=u.flat.map U.id
def U.idss (us:List U):List Idd:=(U.flats us).map U.id
theorem U.ids_eq (u:U):u.ids=u.id::U.idss u.kids:=by unfold U.ids U.idss;rw[U.flat_eq];rfl
theorem U.idss_cons (u:U) (us:List U):U.idss (u::us)=u.ids++U.idss us:=by unfold U.ids U.idss;rw[U.flats,map_append]
theorem U.ids_len (u:U):u.ids.length=u.flat.length:=by simp[U.ids]
def pJ (u:U):Bool:=
 (decide (0<=u.kind)&&(decide (u.kind<=7)&&(decide ((u.kids.length:Int)<=64)&&(aU u.head&&aU u.words))))&&
 (if u.kind=0 then decide (u.label=[])&&(decide ((u.head.length:Int)=0)&&decide ((u.words.length:Int)=0))else br u.label)
section
variable (G:Glob)
theorem f56:∀(u:U),u.Tame->Pure G Tryz.prog 56 [.agg u.cs] (.lst 3 (u.ids.map Idd.cs)):=by
 refine U.ind λu ih M=>?_
 have X:=M.kids
 have hc:=M.2
 refine Pure.w c56 λR N=>?_
 unfold s56 r56
 rw[U.ids_eq]at N
 have O:u.flat.length=1+(U.idss u.kids).length:=by rw[←U.ids_len,U.ids_eq,length_cons];omega
 (repeat' (first|(with_reducible refine aa (ih x E.mem (M.kid E.mem)) ?_)|simp only[EVz,seval,↓reduceIte,EV6,EV7,E.yes,E.le0,E.lt',E.get,E.row,hw]|simp only[EVz,seval,↓reduceIte,EV6,EV7,Y]|simp only[EVz,seval,↓reduceIte,EV6,EV7]|(with_reducible intro J F;(try(have I:=F;simp only[EVK]at I;(have Z:=I))))|(refine⟨[u.id.cs],rfl,(by simp[Idd.cs]),(by simp[Idd.cs]),?_⟩)|(refine ay (ι:=Option Nat×List Idd) u.kids (λi r c=>u.id::U.idss u.kids=c.2++U.idss r) (λi c=>[(1,.ref u.cs),(3,.own c.1 23 3 (c.2.map Idd.cs)),(4,.int .i64 i)]) (λi c=>tokS c.1 23 (c.2.length*3)) (some J,[u.id]) rfl (Weak.rfl' _ _) (by omega) (λi x r c D E hw=>?_) (λc D Y=>?_))))
 ·have V:=congrArg List.length D
  simp only[length_cons,length_append,U.idss_cons]at V
  refine p6 (m':=(c.2++x.ids).length*3) iR (by simp) (by simp) (by simp;omega) (λT=>?_)
  exact ap E (T,c.2++x.ids) (by rw[D,U.idss_cons,append_assoc]) (by simp only[map_append];exact Weak.rfl' _ _)
 ·exact N _ _ (Or.inl (Or.inr ⟨rfl,by rw[D];simp[U.idss,U.flats]⟩))
theorem f263 (u:U) (E:u.fit) (I:u.label.length<1000000000000000000) (F:u.head.length<1000000) (J:u.words.length<1000000):Pure G Tryz.prog 263 [.agg u.cs] (.bool (pJ u)):=by
 refine Pure.w c263 λR D=>?_
 unfold s263 r263
 (repeat' (first|(with_reducible (first|refine ab (λh=>?_) (λh=>?_)|refine ai (λh=>?_) (λh=>?_))<;>(try simp only[DZ]at h))|(with_reducible first|refine aa (f291 G _ F) ?_|refine aa (f291 G _ J) ?_|refine aa (f78 G _ I) ?_)|simp only[EVz,seval,↓reduceIte,EV6,EV7]))
 (all_goals(first|(refine RET.eq D ?_;(refine congrArg AV.bool (Bool.eq_iff_iff.2 ?_);simp only[pJ,EVB]at*;omega))|(refine RET.eq D ?_;((simp_all[pJ];done)))))
def zId:Idd:=⟨0,0,0⟩
def pH (u:U):Bool:=(u.ids.all λx=>decide (x=zId))||(decide (decide (u.id=zId)=decide (u.kind=0))&&decide u.ids.Nodup)
theorem gv (x y:Idd):(decide (x.act=y.act)&&(decide (x.item=y.item)&&(decide (x.n=y.n)&&true)))=decide (x=y):=by rw[mu,Bool.and_true]
theorem pu (x:Idd):(decide (x.act=0)&&(decide (x.item=0)&&(decide (x.n=0)&&true)))=decide (x=zId):=gv x zId
theorem f198 (u:U) (ht:u.Tame):Pure G Tryz.prog 198 [.agg u.cs] (.bool (pH u)):=by
 refine Pure.w c198 λR J=>?_
 unfold s198 r198
 have hl:u.ids.length<1000000:=by rw[U.ids_len];exact ht.2
 have h0:u.ids=u.id::U.idss u.kids:=U.ids_eq u
 obtain⟨l,N⟩:∃l,u.ids=l:=⟨_,rfl⟩
 have hA:=f56 G u ht
 unfold pH at J
 rw[N]at J hA hl
 have al:0<l.length:=by rw[←N,h0];simp
 have M:(l.map Idd.cs).getD 0 []=[.int .i64 u.id.act,.int .i64 u.id.item,.int .i64 u.id.n]:=by rw[←N,h0];rfl
 (repeat' (first|(with_reducible (first|refine ab (λh=>?_) (λh=>?_)|refine ai (λh=>?_) (λh=>?_))<;>(try simp only[DZ]at h))|(with_reducible first|refine AI (by omega) ?_|refine aa hA ?_)|simp only[EVz,seval,↓reduceIte,EV6,EV7,M,pu,gv,E.yes,E.le0,E.lt',E.get,E.row,X]|simp only[EVz,seval,↓reduceIte,EV6,EV7,M,pu,gv,Y]|simp only[EVz,seval,↓reduceIte,EV6,EV7,M,pu,gv]|(refine ay (ι:=Bool) (l) (λi r c=>(l.all λx=>decide (x=zId))=(c&&r.all λx=>decide (x=zId))) (λi c=>[(1,.ref u.cs),(3,.lst 3 (l.map Idd.cs)),(4,.bool c),(5,.int .i64 i)]) (λ_ _=>[]) (true) (by rfl) (Weak.rfl' _ _) (by omega) (λi x r c D E X=>?_) (λc D Y=>?_))|(refine ap E _ ?_ (Weak.rfl' _ _))))
 ·rw[D,h];simp
 ·rw[D,h];simp
 ·exact RET.eq J (by rw[D,h];simp)
 ·refine RET.eq J ?_
  rw[D]
  simp only[all_nil,Bool.and_true]
  rename_i V
  rw[V]
  have:¬(decide (u.id=zId)=decide (u.kind=0)):=by simpa using h
  simp[this]
 ·rename_i V
  have I:(l.all λx=>decide (x=zId))=false:=by rw[D,V];rfl
  have T:(decide (u.id=zId)=decide (u.kind=0)):=by simpa using h
  rw[I,Bool.false_or,decide_eq_true T,Bool.true_and]at J
  clear D h V I T
  (repeat' (first|(with_reducible (refine ab (λh=>?_) (λh=>?_))<;>(try simp only[DZ]at h))|simp only[EVz,seval,↓reduceIte,EV6,EV7,gv,O.yes,O.le0,O.lt',O.row,ah,E.le0,E.lt',E.row]|simp only[EVz,seval,↓reduceIte,EV6,EV7,gv,ac,E.le0,E.lt',E.row,X]|simp only[EVz,seval,↓reduceIte,EV6,EV7,gv,E.yes,E.le0,E.lt',E.get,E.row,X]|simp only[EVz,seval,↓reduceIte,EV6,EV7,gv,Y]|(refine ap E () ?_ (Weak.rfl' _ _))|(refine ay (l) (λi r (c:Unit)=>(l.take i).Nodup) (λi c=>[(3,.lst 3 (l.map Idd.cs)),(6,.int .i64 i)]) (λ_ _=>[]) () (by((simp;done))) (Weak.rfl' _ _) (by omega) (λi x r c D E X=>?_) (λc D Y=>?_))|(refine W_take (l) (i) (Nat.le_of_lt E.lt) (λk (c:Unit)=>¬x∈l.take k) (λk c=>[(3,.lst 3 (l.map Idd.cs)),(6,.int .i64 i),(7,.int .i64 k)]) (λ_ _=>[]) () (by simp) (Weak.rfl' _ _) (by have:=E.lt;omega) (λk y c F O ah=>?_) (λc F ac=>?_))|(refine qz O () ?_ (Weak.rfl' _ _))))
  ·refine RET.eq J (congrArg AV.bool (Eq.symm (decide_eq_false ?_)))
   intro Z
   subst h
   exact qS E Z O.mem
  ·rw[O.take];simp[F,Ne.symm h]
  ·rw[E.take]
   exact nodup_append.2 ⟨D,by simp,by intro a ha b hb e;simp only[mem_singleton]at hb;subst hb e;exact F ha⟩
  ·rw[take_length]at D
   exact RET.eq J (by rw[decide_eq_true D])
def pr (l:List U):Prop:=(l.map λk=>(k.kind,k.label)).Nodup
instance (l:List U):Decidable (pr l):=inferInstanceAs (Decidable (List.Nodup _))
mutual
def U.right:U->Bool
 |⟨i,k,l,h,w,ks⟩=>pJ ⟨i,k,l,h,w,ks⟩&&(U.rights k ks&&decide (pr ks))
def U.rights:Int->List U->Bool
 |_,[]=>true
 |k,u::us=>(nests k u.kind&&U.right u)&&U.rights k us
end
theorem U.right_eq (u:U):u.right=(pJ u&&(U.rights u.kind u.kids&&decide (pr u.kids))):=by cases u;rw[U.right]
def U.Short (u:U):Prop:=u.Tame/\∀x∈u.flat,x.label.length<1000000000000000000/\x.head.length<1000000/\x.words.length<1000000/\(∀w∈x.head,w.text.length<1000000000000000000)/\(∀w∈x.words,w.text.length<1000000000000000000)
theorem U.flat_kid {u k x:U} (D:k∈u.kids) (E:x∈k.flat):x∈u.flat:=by
 rw[U.flat_eq]
 refine mem_cons_of_mem _ ?_
 have:∀us:List U,k∈us->x∈U.flats us:=by
  intro us
  induction us with
  |nil=>intro h;cases h
  |cons a us ih=>
   intro h
   rw[U.flats]
   rcases mem_cons.1 h with rfl|h
   ·exact mem_append.2 (.inl E)
   ·exact mem_append.2 (.inr (ih h))
 exact this _ D
theorem U.flat_self (u:U):u∈u.flat:=by rw[U.flat_eq];simp
theorem U.Short.kid {u k:U} (h:u.Short) (D:k∈u.kids):k.Short:=⟨h.1.kid D,λx E=>h.2 x (U.flat_kid D E)⟩
theorem qC {l:List U} {i:Nat} {x y:U} {r:List U} (I:Rest l i x r) (J:y∈l.take i) (E:y.kind=x.kind) (F:y.label=x.label):¬pr l:=by
 intro h
 unfold pr at h
 have D:((l.take (i+1)).map λk=>(k.kind,k.label)).Nodup:=h.sublist ((take_sublist (i+1) l).map _)
 rw[I.take,map_append]at D
 exact(nodup_append.1 D).2.2 (y.kind,y.label) (mem_map.2 ⟨y,J,rfl⟩) (x.kind,x.label) (by simp) (by rw[E,F])
theorem qe {l:List U} {i:Nat} {x:U} {r:List U} (I:Rest l i x r) (h:pr (l.take i)) (F:∀y∈l.take i,¬(y.kind=x.kind/\y.label=x.label)):pr (l.take (i+1)):=by
 unfold pr at*
 rw[I.take,map_append]
 refine nodup_append.2 ⟨h,by simp,?_⟩
 intro a E b D e
 obtain⟨y,J,rfl⟩:=mem_map.1 E
 have D:b=(x.kind,x.label):=by simpa using D
 subst D
 injection e with e1 e2
 exact F y J ⟨e1,e2⟩
theorem f197:∀(u:U),u.Short->Pure G Tryz.prog 197 [.agg u.cs] (.bool u.right):=by
 refine U.ind λu ih T=>?_
 have al:=T.1.kids
 have V:=T.2 u u.flat_self
 have N:=T.1.1
 have ac:pr ([]:List U):=by unfold pr;simp
 refine Pure.w c197 λR M=>?_
 unfold s197 r197
 rw[U.right_eq]at M
 (repeat' (first|(with_reducible (first|refine ab (λh=>?_) (λh=>?_)|refine ai (λh=>?_) (λh=>?_))<;>(try simp only[DZ]at h))|(with_reducible first|refine aa (f263 G u N V.1 V.2.1 V.2.2.1) ?_|refine aa (f74 G _ _) ?_|refine aa (ih x D.mem (T.kid D.mem)) ?_)|simp only[EVz,seval,↓reduceIte,EV6,EV7,J.yes,J.le0,J.lt',J.row,Z,D.le0,D.lt',D.row]|simp only[EVz,seval,↓reduceIte,EV6,EV7,Y,D.le0,D.lt',D.row,hw]|simp only[EVz,seval,↓reduceIte,EV6,EV7,D.yes,D.le0,D.lt',D.get,D.row,hw]|simp only[EVz,seval,↓reduceIte,EV6,EV7,hn]|simp only[EVz,seval,↓reduceIte,EV6,EV7]|(with_reducible intro ah E;(try(have O:=E;simp only[EVK]at O;(have an:=O))))|(refine ap D () ?_ (Weak.rfl' _ _))|(refine ay (u.kids) (λi r (c:Unit)=>U.rights u.kind u.kids=U.rights u.kind r/\pr (u.kids.take i)) (λi c=>[(1,.ref u.cs),(3,.int .i64 i)]) (λ_ _=>[]) () (by((simp[*];done))) (Weak.rfl' _ _) (by omega) (λi x r c F D hw=>?_) (λc F hn=>?_))|(refine W_take (u.kids) (i) (Nat.le_of_lt D.lt) (λk (c:Unit)=>∀y∈u.kids.take k,¬(y.kind=x.kind/\y.label=x.label)) (λk c=>[(1,.ref u.cs),(3,.int .i64 i),(4,.int .i64 k)]) (λ_ _=>[]) () (by simp) (Weak.rfl' _ _) (by have:=D.lt;omega) (λk y c I J Z=>?_) (λc I Y=>?_))|(refine qz J () ?_ (Weak.rfl' _ _))))
 ·exact RET.eq M (by rw[h];rfl)
 ·exact RET.eq M (by rw[F.1,U.rights,h,Bool.and_false];simp)
 ·exact RET.eq M (by rw[decide_eq_false (qC D J.mem (by assumption) h)];simp)
 ·rw[J.take]at E
  rcases mem_append.1 E with hb|hb
  ·exact I _ hb
  ·simp only[mem_singleton]at hb;subst hb;exact λe=>h e.2
 ·rw[J.take]at E
  rcases mem_append.1 E with hb|hb
  ·exact I _ hb
  ·simp only[mem_singleton]at hb;subst hb;exact λe=>h e.1
 ·rename_i X
  exact⟨by rw[F.1,U.rights,X,h];rfl,qe D F.2 I⟩
 ·exact RET.eq M (by rw[F.1,U.rights,h];simp)
 ·rw[take_length]at F
  exact RET.eq M (by rw[F.1,h,U.rights,decide_eq_true F.2];rfl)
def pF (u:U):Bool:=u.right&&(decide (u.dep<=8)&&(decide (u.cnt<=1024)&&pH u))
theorem f107 (u:U) (F:u.Short):Pure G Tryz.prog 107 [.agg u.cs] (.bool (pF u)):=by
 have D:=F.1
 refine Pure.w c107 λR E=>?_
 unfold s107 r107
 (repeat' (first|(with_reducible (refine ai (λh=>?_) (λh=>?_))<;>(try simp only[DZ]at h))|(with_reducible first|refine aa (f197 G u F) ?_|refine aa (f77 G u D) ?_|refine aa (f138 G u D) ?_|refine aa (f198 G u D) ?_)|simp only[EVz,seval,↓reduceIte,EV6,EV7]))
 (all_goals(first|(refine RET.eq E ?_;(refine congrArg AV.bool (Bool.eq_iff_iff.2 ?_);simp only[pF,EVB]at*;omega))|(refine RET.eq E ?_;((simp_all[pF];done)))))
end
end Go.Av
