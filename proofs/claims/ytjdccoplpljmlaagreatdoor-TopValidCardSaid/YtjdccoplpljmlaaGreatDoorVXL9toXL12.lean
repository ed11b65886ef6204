/-
  LINT, 9: labels, addresses.
-/
import Derived.Test.YtjdccoplpljmlaaGreatDoorVXL6toXL8
import Derived.Test.YtjdccoplpljmlaaGreatDoorVShelf
import Derived.Shelf.Strings.FuncGrows
import Derived.Laws.RangeAny
import Derived.Lib.MinMax
namespace Go.Av
open Go Go.RowKit Go.Proofs List
set_option linter.unusedSimpArgs false
set_option linter.unusedVariables false
theorem W_listF {α ι:Type} {G:Glob} {P:Program} {a:SCode} {Q:Exit->Env->Store->Prop} {X:Tag Q} {env:Env} {σ:Store} (l:List α) (E:Nat) (ok:Nat->List α->ι->Prop) (st:Nat->ι->Env) (F:Nat->ι->Store) (c0:ι)
  (hi:E<=l.length) (T:ok E (l.drop E) c0) (V:Weak G env σ (st E c0) (F E c0)) (Y:l.length<9000000000000000000)
  (more:∀i x r c,ok i (x::r) c->Rest l i x r->IntKind.i64.wrap ((i:Int)+1)=((i+1:Nat):Int)->W G P a (NR (LK G l ok st F i) Q ⟨⟩ ⟨⟩) (st i c) (F i c) ⟨⟩)
  (I:∀c,ok l.length [] c->decide ((l.length:Int)<(l.length:Int))=false->W G P a (NR (LK G l ok st F l.length) Q ⟨⟩ ⟨⟩) (st l.length c) (F l.length c) ⟨⟩):W G P (.loop a) Q env σ X:=by
 refine bv (ι:=Nat×List α×ι) (λj=>l.drop j.1=j.2.1/\j.1<=l.length/\ok j.1 j.2.1 j.2.2) (λj=>l.length-j.1) (λj=>st j.1 j.2.2) (λj=>F j.1 j.2.2) (E,l.drop E,c0) ⟨rfl,hi,T⟩ V ?_
 rintro⟨i,r,c⟩ ⟨J,N,M⟩
 simp only at J N M ⊢
 cases r with
 |nil=>
  obtain rfl:=nB J N
  exact I c M (by simp)
 |cons x r=>
  have O:=ge J
  exact more i x r c M O (jA (by have:=O.lt;omega))
theorem eF (p:Nat->Bool) (M:∀n,128<=n->p n=true) (s:List UInt8):∀(f pos:Nat),pos<=s.length->s.length-pos<=f->
  Lib.idxFuncFrom p true ⟨⟨s⟩⟩ f pos=idxF (λc:UInt8=>p c.toNat) pos (s.drop pos)
 |0,pos,h1,h2=>by
  have:s.drop pos=[]:=drop_eq_nil_of_le (by omega)
  rw[this];rfl
 |f+1,pos,h1,h2=>by
  have N:(⟨⟨s⟩⟩:ByteArray).size=s.length:=rfl
  unfold Lib.idxFuncFrom
  rw[N]
  by_cases E:pos<s.length
  ·have F:pos<(⟨⟨s⟩⟩:ByteArray).size:=E
   have e:s.drop pos=s[pos]::s.drop (pos+1):=drop_eq_getElem_cons E
   have I:(⟨⟨s⟩⟩:ByteArray)[pos]'F=s[pos]:=rfl
   rw[if_pos E,e,idxF]
   by_cases O:(s[pos]).toNat<128
   ·have J:=decode_ascii (⟨⟨s⟩⟩:ByteArray) pos F (by rw[I];exact O)
    rw[J,I]
    cases T:p (s[pos]).toNat with
    |true=>simp
    |false=>simp;exact eF p M s f (pos+1) (by omega) (by omega)
   ·have J:=decode_high (⟨⟨s⟩⟩:ByteArray) pos F (by rw[I];omega)
    rw[M _ J.1,M _ (by omega)]
    simp
  ·rw[if_neg E,drop_eq_nil_of_le (by omega)]
   rfl
theorem nq {w w':World} (ev:Ev [] w [] w'):Below w.heap.size w w':=⟨ev.os,ev.tape,ev.output,ev.size,λk E=>(ev.block k E (by simp[Store.keys])).1⟩
section
variable (G:Glob)
theorem jX {g:Nat} {p:Nat->Bool} {τ:Store} {w:World} (F:Sat G τ w) (J:∀n:Nat,Pure G Tryz.prog g [.int .i32 (n:Int)] (.bool (p n))):PredGrows Tryz.prog g #[] p w:=λW x M I=>by
 have:=(J x).2 τ W (#[encR x]++#[]) (by simpa using Sat.below F I) (by simp[RepL,Rep])
 refine this.mono ?_
 rintro e w' ⟨v,r,σ',rfl,⟨rfl,rfl⟩,_,ev,E⟩
 simp only[Rep]at E
 exact⟨by rw[E],nq ev⟩
theorem f188 (g:Nat) (p:Nat->Bool) (s:List UInt8) (I:∀args w,(callFunc g args).run Tryz.prog w= .ok (.enter g args) w) (O:∀n,128<=n->p n=true) (N:∀n:Nat,Pure G Tryz.prog g [.int .i32 (n:Int)] (.bool (p n))):
  Pure G Tryz.prog 188 [.str s,.sc (.func (.func g) #[] #[])] (.int .i64 (idxF (λc:UInt8=>p c.toNat) 0 s)):=by
 refine Pure.of_calls Tryz.func188 (by kernel_rfl) (by kernel_rfl) λτ w vs M J=>?_
 obtain⟨u,v,rfl,E,F⟩:=g8 J
 simp only[Rep]at E F
 subst E F
 refine⟨.int .i64 (idxF (λc:UInt8=>p c.toNat) 0 s),λ_ _=>by simp only[Rep],?_⟩
 have h:=Any.strings_IndexFunc_grows Tryz.laysGw15 g #[] I p ⟨⟨s⟩⟩ w (jX G M N)
 have e:Lib.idxFunc p true ⟨⟨s⟩⟩=idxF (λc:UInt8=>p c.toNat) 0 s:=eF p O s s.length 0 (by omega) (by omega)
 rw[e]at h
 exact h
theorem f129 (g:Nat) (p:Nat->Bool) (s:List UInt8) (I:∀args w,(callFunc g args).run Tryz.prog w= .ok (.enter g args) w) (O:∀n,128<=n->p n=true) (N:∀n:Nat,Pure G Tryz.prog g [.int .i32 (n:Int)] (.bool (p n))):
  Pure G Tryz.prog 129 [.str s,.sc (.func (.func g) #[] #[])] (.bool (s.any λc:UInt8=>p c.toNat)):=by
 refine Pure.of_calls Tryz.func129 (by kernel_rfl) (by kernel_rfl) λτ w vs M J=>?_
 obtain⟨u,v,rfl,E,F⟩:=g8 J
 simp only[Rep]at E F
 subst E F
 refine⟨.bool (s.any λc:UInt8=>p c.toNat),λ_ _=>by simp only[Rep],?_⟩
 have h:=Any.strings_ContainsFunc_grows Tryz.laysGw17 g #[] I p ⟨⟨s⟩⟩ w (jX G M N)
 have e:Lib.idxFunc p true ⟨⟨s⟩⟩=idxF (λc:UInt8=>p c.toNat) 0 s:=eF p O s s.length 0 (by omega) (by omega)
 rw[e,dW]at h
 exact h
def gQ (n:Nat):Bool:=decide (n<48)||decide (57<n)
def ky (n:Nat):Bool:=decide (n<65)||decide (90<n)
theorem f189 (n:Nat):Pure G Tryz.prog 189 [.int .i32 (n:Int)] (.bool (gQ n)):=by
 refine Pure.w c189 λR E=>?_
 unfold s189 r189
 (repeat' (first|(with_reducible (refine ai (λh=>?_) (λh=>?_))<;>(try simp only[DZ]at h))|simp only[EVz,seval,↓reduceIte,EV6,EV7]))
 (all_goals(((refine RET.eq E ?_;(refine congrArg AV.bool (Bool.eq_iff_iff.2 ?_);simp only[gQ,EVB]at*;omega)))))
theorem f128 (n:Nat):Pure G Tryz.prog 128 [.int .i32 (n:Int)] (.bool (ky n)):=by
 refine Pure.w c128 λR E=>?_
 unfold s128 r128
 (repeat' (first|(with_reducible (refine ai (λh=>?_) (λh=>?_))<;>(try simp only[DZ]at h))|simp only[EVz,seval,↓reduceIte,EV6,EV7]))
 (all_goals(((refine RET.eq E ?_;(refine congrArg AV.bool (Bool.eq_iff_iff.2 ?_);simp only[ky,EVB]at*;omega)))))
theorem nj:∀(s:List UInt8) (i:Nat),idxF (λc:UInt8=>gQ c.toNat) i s=if digN s<s.length then ((i+digN s:Nat):Int)else -1
 |[],i=>rfl
 |c::s,i=>by
  unfold idxF digN
  have F:gQ c.toNat= !je c:=by
   unfold gQ je
   rw[Bool.eq_iff_iff]
   simp<;>omega
  rw[F]
  cases h:je c with
  |true=>
   simp only[Bool.not_true,if_true,Bool.false_eq_true,if_false]
   rw[nj s (i+1)]
   simp only[length_cons]
   by_cases E:digN s<s.length
   ·rw[if_pos E,if_pos (by omega)];congr 1;omega
   ·rw[if_neg E,if_neg (by omega)]
  |false=>simp
theorem any_up (s:List UInt8):(s.any λc:UInt8=>ky c.toNat)= !(s.all isUp):=by
 induction s with
 |nil=>rfl
 |cons c s ih=>
  rw[any_cons,all_cons,ih]
  have E:ky c.toNat= !isUp c:=by
   unfold ky isUp
   rw[Bool.eq_iff_iff]
   simp<;>omega
  rw[E]
  cases isUp c<;>simp
theorem f127 (s:List UInt8):Pure G Tryz.prog 127 [.str s] (.tup [.str (s.take (digN s)),.str (s.drop (digN s))]):=by
 refine Pure.w c127 λR F=>?_
 unfold s127 r127
 have I:=jF s
 have E:=f188 G 189 gQ s (enters_of Tryz.func189 (by kernel_rfl) rfl) (λn J=>by simp[gQ];omega) (λn=>f189 G n)
 rw[nj s 0,Nat.zero_add]at E
 by_cases h:digN s<s.length
 ·rw[if_pos h]at E
  (repeat' (first|(with_reducible (refine ab (λh=>?_) (λh=>?_))<;>(try simp only[DZ]at h))|(with_reducible first|refine AI (by omega) ?_|refine aa E ?_)|simp only[EVz,seval,↓reduceIte,EV6,EV7]|(exfalso;omega)))
  (all_goals(((refine RET.eq F ?_;((simp_all[];done))))))
 ·rw[if_neg h]at E
  have e:digN s=s.length:=by omega
  rw[e,take_length,drop_length]at F
  (repeat' (first|(with_reducible refine aa E ?_)|simp only[EVz,seval,↓reduceIte,EV6,EV7]))
  (all_goals((exact RET.eq F rfl)))
theorem f75 (s:List UInt8):Pure G Tryz.prog 75 [.str s] (.bool (bc s)):=by
 refine Pure.w c75 λR I=>?_
 unfold s75 r75
 have J:=jF s
 have E:min (digN s) s.length=digN s:=Nat.min_eq_left J
 have F:=f129 G 128 ky (s.drop (digN s)) (enters_of Tryz.func128 (by kernel_rfl) rfl) (λn T=>by simp[ky];omega) (λn=>f128 G n)
 rw[any_up]at F
 by_cases O:1<=digN s
 ·have N:(s.take (digN s)).getD 0 0=s.getD 0 0:=by simp[List.getD,getElem?_take,show 0<digN s by omega]
  (repeat' (first|(with_reducible (refine ai (λh=>?_) (λh=>?_))<;>(try simp only[DZ]at h))|(with_reducible first|refine AI (by omega) ?_|refine aa (f127 G s) ?_|refine aa F ?_)|simp only[EVz,seval,↓reduceIte,EV6,EV7,length_take,length_drop,E,N,Bool.not_not]|(exfalso;omega)))
  (all_goals(first|(refine RET.eq I ?_;(refine congrArg AV.bool (Bool.eq_iff_iff.2 ?_);simp only[bc,EVB]at*;omega))|(refine RET.eq I ?_;((simp_all[bc];done)))))
 ·have M:bc s=false:=by simp[bc,show ¬((1:Int)<=digN s)by omega]
  rw[M]at I
  (repeat' (first|(with_reducible (refine ai (λh=>?_) (λh=>?_))<;>(try simp only[DZ]at h))|(with_reducible first|refine AI (by omega) ?_|refine aa (f127 G s) ?_|refine aa F ?_)|simp only[EVz,seval,↓reduceIte,EV6,EV7,length_take,length_drop,E]|(exfalso;omega)))
  (all_goals((exact RET.eq I rfl)))
theorem f126 (s:List UInt8) (O:s.length<1000000000000000000):Pure G Tryz.prog 126 [.str s] (.bool (bc s)):=by
 refine Pure.w c126 λR M=>?_
 unfold s126 r126
 have I:=jF s
 have E:IntKind.i64.wrap ((s.length:Int)-(digN s:Int))=((s.length-digN s:Nat):Int):=by rw[av (by omega) (by omega)];omega
 (repeat' (first|(with_reducible (first|refine ab (λh=>?_) (λh=>?_)|refine ai (λh=>?_) (λh=>?_))<;>(try simp only[DZ]at h))|(with_reducible first|refine AI (by omega) ?_|refine aa (f187 G s O) ?_)|simp only[EVz,seval,↓reduceIte,EV6,EV7,E,F.yes,F.le0,F.lt',F.get,F.row,T]|simp only[EVz,seval,↓reduceIte,EV6,EV7,E,N]|simp only[EVz,seval,↓reduceIte,EV6,EV7,E]|(refine am F () ?_ (Weak.rfl' _ _))|(refine W_listF s (digN s) (λi r (c:Unit)=>(s.drop (digN s)).all isUp=r.all isUp) (λi c=>[(0,.str s),(4,.int .i64 i)]) (λ_ _=>[]) () I rfl (Weak.rfl' _ _) (by omega) (λi x r c J F T=>?_) (λc J N=>?_))))
 (all_goals(first|(refine RET.eq M ?_;(refine congrArg AV.bool (Bool.eq_iff_iff.2 ?_);simp only[bc,isUp,EVB]at*;omega))|(refine RET.eq M ?_;first|(simp_all[bc,isUp];done)|(simp_all[bc,isUp];omega))|(simp_all[bc,isUp];done)))
end
section
variable (G:Glob)
theorem f117 (p:List Stp) (X:p.length<1000000):Pure G Tryz.prog 117 [.lst 2 (p.map Stp.cs)] (.bool (dP p)):=by
 refine Pure.w c117 λR N=>?_
 unfold s117 r117
 (repeat' (first|(with_reducible (first|refine ab (λh=>?_) (λh=>?_)|refine ai (λh=>?_) (λh=>?_))<;>(try simp only[DZ]at h))|(with_reducible first|refine aa (f174 G _ _) ?_|refine aa (f75 G _) ?_)|simp only[EVz,seval,↓reduceIte,EV6,EV7,E.yes,E.le0,E.lt',E.get,E.row,V]|simp only[EVz,seval,↓reduceIte,EV6,EV7,O]|simp only[EVz,seval,↓reduceIte,EV6,EV7]|(with_reducible intro M F;(try(have I:=F;simp only[EVK]at I;(have T:=I))))|(refine am E () ?_ (Weak.sub (SubN.nil _)))|(refine ax (p) (λi r (c:Unit)=>dX 0 p=dX i r) (λi c=>[(0,.lst 2 (p.map Stp.cs)),(5,.lst 2 (p.map Stp.cs)),(6,.int .i64 p.length),(7,.int .i64 i)]) (λ_ _=>[]) () (by rfl) (Weak.rfl' _ _) (by omega) (λi x r c J E V=>?_) (λc J O=>?_))))
 (all_goals(first|(refine RET.eq N ?_;first|(simp only[dP,dX,i7,J,EVC,decide_true,decide_false];done)|(simp_all[dP,dX,i7];done)|(simp_all[dP,dX,i7];omega))|(simp_all[dP,dX,i7];done)|(simp_all[dP,dX,i7];omega)))
end
mutual
def U.size:U->Int->Int->Int
 |⟨_,_,_,_,_,ks⟩,d,m=>if 20<d then m+1 else U.sizes ks d m 1
def U.sizes:List U->Int->Int->Int->Int
 |[],_,_,n=>n
 |u::us,d,m,n=>if n<=m then U.sizes us d m (n+U.size u (d+1) (m-n))else n
end
theorem U.size_eq (u:U) (d m:Int):u.size d m=if 20<d then m+1 else U.sizes u.kids d m 1:=by cases u;rw[U.size]
theorem U.size_ok:∀(u:U) (d m:Int),0<=m->1<=u.size d m/\u.size d m<=m+1/\(u.size d m<=m->d<=20/\(u.flat.length:Int)=u.size d m):=by
 refine U.ind λu ih d m hm=>?_
 rw[U.size_eq]
 split
 ·exact⟨by omega,by omega,by omega⟩
 ·rename_i hd
  have key:∀(us:List U) (n:Int),(∀k∈us,k∈u.kids)->1<=n->n<=m+1->n<=U.sizes us d m n/\U.sizes us d m n<=m+1/\(U.sizes us d m n<=m->n+((U.flats us).length:Int)=U.sizes us d m n):=by
   intro us
   induction us with
   |nil=>intro n _ M N;simp[U.sizes,U.flats];omega
   |cons k us ihu=>
    intro n E M N
    rw[U.sizes]
    split
    ·rename_i hn
     obtain⟨X,Y,F⟩:=ih k (E k (by simp)) (d+1) (m-n) (by omega)
     obtain⟨Z,I,J⟩:=ihu (n+k.size (d+1) (m-n)) (λq O=>E q (by simp[O])) (by omega) (by omega)
     refine⟨by omega,I,λh=>?_⟩
     have c1:=(F (by omega)).2
     have c2:=J h
     rw[U.flats,length_append]
     omega
    ·exact⟨by omega,by omega,by omega⟩
  obtain⟨k1,T,V⟩:=key u.kids 1 (λ_ h=>h) (by omega) (by omega)
  refine⟨by omega,T,λh=>⟨by omega,?_⟩⟩
  have:=V h
  rw[U.flat_eq,length_cons]
  omega
def eG (l:List Wd):Bool:=(l.all λw=>decide ((w.text.length:Int)<=100))&&decide ((l.length:Int)<=300)
mutual
def U.shorts:U->Bool
 |⟨_,_,l,h,w,ks⟩=>decide ((l.length:Int)<=30)&&(eG h&&(eG w&&U.shortss ks))
def U.shortss:List U->Bool
 |[]=>true
 |u::us=>U.shorts u&&U.shortss us
end
theorem U.shorts_eq (u:U):u.shorts=(decide ((u.label.length:Int)<=30)&&(eG u.head&&(eG u.words&&U.shortss u.kids))):=by cases u;rw[U.shorts]
def U.few (u:U) (m:Int):Bool:=decide (u.size 0 m<=m)&&u.shorts
section
variable {G:Glob} {P:Program}
theorem RAW_max {a b:Int} {i j:Nat} {t X:TypeId} {env:Env} {σ:Store} {K:AV->Store->Prop} (hi:env.get i= .int .i64 a) (O:env.get j= .int .i64 b) (T:K (.int .i64 (max a b)) σ):
  RAW G P (.call (.mk (.builtin .max) #[.tmp i,.tmp j] #[t,X])) env σ K ⟨⟩:=by
 refine ca _ (λρ w I op V Y J=>?_) T
 have E:=J i
 have F:=J j
 rw[hi]at E
 rw[O]at F
 simp only[Rep]at E F
 refine⟨.int .i64 (max a b),?_,by simp only[Rep]⟩
 have M:I.eval (.tmp i)= .int .i64 a:=E
 have N:I.eval (.tmp j)= .int .i64 b:=F
 simp[execOp,V,resolve,invoke,builtin,M,N,Lib.run_max_ints]
end
mutual
def U.fit:U->Prop
 |⟨_,_,l,h,w,ks⟩=>l.length<1000000000000000000/\(h.length<1000000000000000000/\∀x∈h,x.text.length<1000000000000000000)/\(w.length<1000000000000000000/\∀x∈w,x.text.length<1000000000000000000)/\ks.length<1000000000000000000/\U.fits ks
def U.fits:List U->Prop
 |[]=>True
 |u::us=>U.fit u/\U.fits us
end
theorem U.fits_iff:∀{us:List U},U.fits us↔∀k∈us,k.fit
 |[]=>by simp[U.fits]
 |u::us=>by simp[U.fits,U.fits_iff (us:=us)]
theorem U.fit_eq (u:U):u.fit↔u.label.length<1000000000000000000/\(u.head.length<1000000000000000000/\∀x∈u.head,x.text.length<1000000000000000000)/\(u.words.length<1000000000000000000/\∀x∈u.words,x.text.length<1000000000000000000)/\u.kids.length<1000000000000000000/\∀k∈u.kids,k.fit:=by
 cases u
 rw[U.fit,U.fits_iff]
section
variable (G:Glob)
theorem f79:∀(u:U) (d m:Int),u.fit->0<=d->d<=1000->0<=m->m<=1000000->Pure G Tryz.prog 79 [.agg u.cs,.int .i64 d,.int .i64 m] (.int .i64 (u.size d m)):=by
 refine U.ind λu ih d m M V X Z ac=>?_
 have T:=(U.fit_eq u).1 M
 have Y:=T.2.2.2.1
 refine Pure.w c79 λR N=>?_
 unfold s79 r79
 have J:IntKind.i64.wrap (m+1)=m+1:=av (by omega) (by omega)
 have I:IntKind.i64.wrap (d+1)=d+1:=av (by omega) (by omega)
 rw[U.size_eq]at N
 (repeat' (first|(with_reducible (refine ab (λh=>?_) (λh=>?_))<;>(try simp only[DZ]at h))|(with_reducible refine aa (ih x F.mem (d+1) (m-c) (T.2.2.2.2 x F.mem) (by omega) (by omega) (by omega) (by omega)) ?_)|simp only[EVz,seval,↓reduceIte,EV6,EV7,J,I,F.yes,F.le0,F.lt',F.get,F.row,hw,O]|simp only[EVz,seval,↓reduceIte,EV6,EV7,J,I,hn]|simp only[EVz,seval,↓reduceIte,EV6,EV7,J,I]|(refine ax (ι:=Int) (u.kids) (λi r c=>U.sizes u.kids d m 1=U.sizes r d m c/\1<=c/\c<=m+1) (λi c=>[(1,.int .i64 d),(2,.int .i64 m),(3,.ref u.cs),(7,.int .i64 c),(8,.int .i64 i)]) (λ_ _=>[]) (1) (by((simp;omega))) (Weak.rfl' _ _) (by omega) (λi x r c E F hw=>?_) (λc E hn=>?_)<;>(try(have O:IntKind.i64.wrap (m-c)=m-c:=av (by omega) (by omega))))|(refine am F _ ?_ (Weak.rfl' _ _))))
 ·exact RET.eq N (by rw[if_pos h])
 ·obtain⟨a1,a2,a3⟩:=U.size_ok x (d+1) (m-c) (by omega)
  have e:IntKind.i64.wrap (c+x.size (d+1) (m-c))=c+x.size (d+1) (m-c):=av (by omega) (by omega)
  rw[e]
  refine⟨?_,by omega,by omega⟩
  rw[E.1,U.sizes,if_pos h]
 ·exact RET.eq N (by rw[if_neg (by omega),E.1,U.sizes,if_neg (by omega)])
 ·exact RET.eq N (by rw[if_neg (by omega),E.1,U.sizes])
theorem f132 (l:List Wd) (N:l.length<1000000000000000000):Pure G Tryz.prog 132 [.lst 4 (l.map Wd.cs)] (.bool (eG l)):=by
 refine Pure.w c132 λR I=>?_
 unfold s132 r132
 (repeat' (first|(with_reducible (refine ab (λh=>?_) (λh=>?_))<;>(try simp only[DZ]at h))|simp only[EVz,seval,↓reduceIte,EV6,EV7,F.yes,F.le0,F.lt',F.get,F.row,M]|simp only[EVz,seval,↓reduceIte,EV6,EV7,J]|simp only[EVz,seval,↓reduceIte,EV6,EV7]|(refine am F () ?_ (Weak.rfl' _ _))|(refine ax (l) (λi r (c:Unit)=>(l.all λw=>decide ((w.text.length:Int)<=100))=r.all λw=>decide ((w.text.length:Int)<=100)) (λi c=>[(0,.lst 4 (l.map Wd.cs)),(3,.int .i64 i)]) (λ_ _=>[]) () (by rfl) (Weak.rfl' _ _) (by omega) (λi x r c E F M=>?_) (λc E J=>?_))))
 (all_goals(first|(refine RET.eq I ?_;first|(simp only[eG,E,EVC,decide_true,decide_false];done)|(simp_all[eG];omega))|(rw[E];simp only[eG,h,EVC,decide_true,decide_false];done)))
theorem f80:∀(u:U),u.fit->Pure G Tryz.prog 80 [.agg u.cs] (.bool u.shorts):=by
 refine U.ind λu ih I=>?_
 have J:=(U.fit_eq u).1 I
 have N:=J.2.2.2.1
 refine Pure.w c80 λR M=>?_
 unfold s80 r80
 rw[U.shorts_eq]at M
 (repeat' (first|(with_reducible (first|refine ab (λh=>?_) (λh=>?_)|refine ai (λh=>?_) (λh=>?_))<;>(try simp only[DZ]at h))|(with_reducible first|refine aa (f132 G _ J.2.1.1) ?_|refine aa (f132 G _ J.2.2.1.1) ?_|refine aa (ih x E.mem (J.2.2.2.2 x E.mem)) ?_)|simp only[EVz,seval,↓reduceIte,EV6,EV7,E.yes,E.le0,E.lt',E.get,E.row,T]|simp only[EVz,seval,↓reduceIte,EV6,EV7,O]|simp only[EVz,seval,↓reduceIte,EV6,EV7]|(refine am E () ?_ (Weak.rfl' _ _))|(refine ax (u.kids) (λi r (c:Unit)=>U.shortss u.kids=U.shortss r) (λi c=>[(1,.ref u.cs),(3,.int .i64 i)]) (λ_ _=>[]) () (by rfl) (Weak.rfl' _ _) (by omega) (λi x r c F E T=>?_) (λc F O=>?_))))
 (all_goals(first|(refine RET.eq M ?_;(refine congrArg AV.bool (Bool.eq_iff_iff.2 ?_);simp only[U.shortss,EVB]at*;omega))|(refine RET.eq M ?_;first|(simp only[U.shortss,F,h,EVC,decide_true,decide_false];done)|(simp_all[U.shortss];done))|(rw[F];simp only[U.shortss,h,EVC,decide_true,decide_false];done)))
theorem f43 (u:U) (m:Int) (E:u.fit) (F:0<=m) (J:m<=1000000):Pure G Tryz.prog 43 [.agg u.cs,.int .i64 m] (.bool (u.few m)):=by
 refine Pure.w c43 λR I=>?_
 unfold s43 r43
 (repeat' (first|(with_reducible (refine ai (λh=>?_) (λh=>?_))<;>(try simp only[DZ]at h))|(with_reducible first|refine aa (f79 G u 0 m E (by omega) (by omega) F J) ?_|refine aa (f80 G u E) ?_)|simp only[EVz,seval,↓reduceIte,EV6,EV7]))
 (all_goals(first|(refine RET.eq I ?_;(refine congrArg AV.bool (Bool.eq_iff_iff.2 ?_);simp only[U.few,EVB]at*;omega))|(refine RET.eq I ?_;((simp_all[U.few];done)))))
def U.Tame (u:U):Prop:=u.fit/\u.flat.length<1000000
theorem U.flats_mem {us:List U} {k:U} (h:k∈us):k.flat.length<=(U.flats us).length:=by
 induction us with
 |nil=>cases h
 |cons a us ih=>
  rw[U.flats,length_append]
  rcases mem_cons.1 h with rfl|h
  ·omega
  ·have:=ih h;omega
theorem U.flat_pos (u:U):1<=u.flat.length:=by rw[U.flat_eq];simp
theorem U.flats_len (us:List U):us.length<=(U.flats us).length:=by
 induction us with
 |nil=>simp
 |cons a us ih=>rw[U.flats,length_append,length_cons];have:=a.flat_pos;omega
theorem U.Tame.kid {u k:U} (h:u.Tame) (E:k∈u.kids):k.Tame:=by
 refine⟨((U.fit_eq u).1 h.1).2.2.2.2 k E,?_⟩
 have:=U.flats_mem E
 have F:=h.2
 rw[U.flat_eq,length_cons]at F
 omega
theorem U.Tame.kids {u:U} (h:u.Tame):u.kids.length<1000000:=by
 have:=U.flats_len u.kids
 have E:=h.2
 rw[U.flat_eq,length_cons]at E
 omega
def U.cnt (u:U):Int:=u.flat.length
def U.cnts (us:List U):Int:=(U.flats us).length
theorem U.cnt_eq (u:U):u.cnt=1+U.cnts u.kids:=by unfold U.cnt U.cnts;rw[U.flat_eq,length_cons];omega
theorem U.cnts_cons (u:U) (us:List U):U.cnts (u::us)=u.cnt+U.cnts us:=by unfold U.cnt U.cnts;rw[U.flats,length_append];omega
theorem U.cnts_nil:U.cnts []=0:=rfl
theorem U.cnts_ge (us:List U):0<=U.cnts us:=by unfold U.cnts;omega
theorem U.cnt_ge (u:U):1<=u.cnt:=by have:=u.flat_pos;unfold U.cnt;omega
theorem f34:∀(u:U),u.Tame->Pure G Tryz.prog 34 [.agg u.cs] (.int .i64 u.cnt):=by
 refine U.ind λu ih J=>?_
 have N:=J.kids
 have V:=J.2
 have I:(u.flat.length:Int)=u.cnt:=rfl
 refine Pure.w c34 λR M=>?_
 unfold s34 r34
 rw[U.cnt_eq]at M I
 (repeat' (first|(with_reducible refine aa (ih x E.mem (J.kid E.mem)) ?_)|simp only[EVz,seval,↓reduceIte,EV6,EV7,E.yes,E.le0,E.lt',E.get,E.row,T]|simp only[EVz,seval,↓reduceIte,EV6,EV7,O]|simp only[EVz,seval,↓reduceIte,EV6,EV7]|(refine ax (ι:=Int) (u.kids) (λi r c=>1+U.cnts u.kids=c+U.cnts r/\1<=c) (λi c=>[(1,.ref u.cs),(3,.int .i64 c),(4,.int .i64 i)]) (λ_ _=>[]) (1) (by((simp;done))) (Weak.rfl' _ _) (by omega) (λi x r c F E T=>?_) (λc F O=>?_))|(refine am E _ ?_ (Weak.rfl' _ _))))
 ·rw[U.cnts_cons]at F
  have:=U.cnt_ge x
  have:=U.cnts_ge r
  rw[av (by omega) (by omega)]
  omega
 ·exact RET.eq M (by rw[F.1,U.cnts_nil];simp)
def U.dep (u:U):Int:=u.deep
def U.deps (us:List U):Int:=U.deeps us
theorem U.dep_eq (u:U):u.dep=U.deps u.kids:=by unfold U.dep U.deps;rw[U.deep_eq]
theorem U.deps_cons (u:U) (us:List U):U.deps (u::us)=max (1+u.dep) (U.deps us):=by unfold U.dep U.deps;rw[U.deeps];omega
theorem U.deps_nil:U.deps []=0:=rfl
theorem U.dep_ge (u:U):0<=u.dep:=by unfold U.dep;omega
theorem U.dep_cnt:∀u:U,u.dep<u.cnt:=by
 refine U.ind λu ih=>?_
 rw[U.dep_eq,U.cnt_eq]
 have key:∀us:List U,(∀k∈us,k.dep<k.cnt)->U.deps us<=U.cnts us:=by
  intro us
  induction us with
  |nil=>intro _;simp[U.deps_nil,U.cnts_nil]
  |cons a us iha=>
   intro h
   have F:=h a (by simp)
   have I:=iha λk E=>h k (by simp[E])
   rw[U.deps_cons,U.cnts_cons]
   have:=U.cnts_ge us
   have:=U.cnt_ge a
   omega
 have:=key u.kids ih
 omega
theorem f33:∀(u:U),u.Tame->Pure G Tryz.prog 33 [.agg u.cs] (.int .i64 u.dep):=by
 refine U.ind λu ih I=>?_
 have O:=I.kids
 have N:0<=U.deps u.kids:=by rw[←U.dep_eq];exact u.dep_ge
 refine Pure.w c33 λR M=>?_
 unfold s33 r33
 rw[U.dep_eq]at M
 (repeat' (first|(with_reducible refine aa (ih x F.mem (I.kid F.mem)) ?_)|simp only[EVz,seval,↓reduceIte,EV6,EV7,F.yes,F.le0,F.lt',F.get,F.row,V,J]|simp only[EVz,seval,↓reduceIte,EV6,EV7,T]|simp only[EVz,seval,↓reduceIte,EV6,EV7]|(refine ax (ι:=Int) (u.kids) (λi r c=>U.deps u.kids=max c (U.deps r)/\0<=c) (λi c=>[(1,.ref u.cs),(3,.int .i64 c),(4,.int .i64 i)]) (λ_ _=>[]) (0) (by((simp;omega))) (Weak.rfl' _ _) (by omega) (λi x r c E F V=>?_) (λc E T=>?_)<;>(try(have J:IntKind.i64.wrap (1+x.dep)=1+x.dep:=av (by have:=x.dep_ge;omega) (by have X:=x.dep_cnt;have Y:=(I.kid F.mem).2;have Z:(x.flat.length:Int)=x.cnt:=rfl;omega))))|(refine am F _ ?_ (Weak.rfl' _ _))|(refine RAW_max rfl rfl ?_)))
 ·rw[U.deps_cons]at E;omega
 ·exact RET.eq M (by rw[E.1,U.deps_nil,Int.max_eq_left E.2])
theorem f38:∀(u:U),u.Tame->Pure G Tryz.prog 38 [.agg u.cs] (.int .i64 u.dep):=by
 refine U.ind λu ih M=>?_
 have X:=M.kids
 have V:0<=U.deps u.kids:=by rw[←U.dep_eq];exact u.dep_ge
 refine Pure.w c38 λR O=>?_
 unfold s38 r38
 rw[U.dep_eq]at O
 (repeat' (first|(with_reducible refine aa (ih x F.mem (M.kid F.mem)) ?_)|simp only[EVz,seval,↓reduceIte,EV6,EV7,F.yes,F.le0,F.lt',F.get,F.row,hw,N]|simp only[EVz,seval,↓reduceIte,EV6,EV7,Y]|simp only[EVz,seval,↓reduceIte,EV6,EV7]|(with_reducible intro T I;(try(have J:=I;simp only[EVK]at J;(have Z:=J))))|(refine ax (ι:=Int) (u.kids) (λi r c=>U.deps u.kids=max c (U.deps r)/\0<=c) (λi c=>[(3,.int .i64 c),(7,.lst 8 (u.kids.map U.cs)),(8,.int .i64 u.kids.length),(9,.int .i64 i)]) (λ_ _=>[]) (0) (by((simp;omega))) (Weak.rfl' _ _) (by omega) (λi x r c E F hw=>?_) (λc E Y=>?_)<;>(try(have N:IntKind.i64.wrap (1+x.dep)=1+x.dep:=av (by have:=x.dep_ge;omega) (by have h1:=x.dep_cnt;have h2:=(M.kid F.mem).2;have h3:(x.flat.length:Int)=x.cnt:=rfl;omega))))|(refine am F _ ?_ (Weak.sub (SubN.nil _)))|(refine RAW_max rfl rfl ?_)))
 ·rw[U.deps_cons]at E;omega
 ·exact RET.eq O (by rw[E.1,U.deps_nil,Int.max_eq_left E.2])
end
theorem ml (a b:Idd):decide (a=b)=(decide (a.act=b.act)&&(decide (a.item=b.item)&&decide (a.n=b.n))):=by
 cases a;cases b
 rw[Bool.eq_iff_iff];simp
theorem U.dec (a b:U):decide (a=b)=((decide (a.id.act=b.id.act)&&(decide (a.id.item=b.id.item)&&decide (a.id.n=b.id.n)))&&(decide (a.kind=b.kind)&&(decide (a.label=b.label)&&(decide (a.head=b.head)&&(decide (a.words=b.words)&&decide (a.kids=b.kids)))))):=by
 rw[←ml]
 cases a;cases b
 rw[Bool.eq_iff_iff];simp
theorem dec_len {α:Type} [DecidableEq α] {a b:List α} (h:a.length≠b.length):decide (a=b)=false:=by
 simp;rintro rfl;exact h rfl
theorem U.fit.kid {u k:U} (h:u.fit) (E:k∈u.kids):k.fit:=((U.fit_eq u).1 h).2.2.2.2 k E
section
variable (G:Glob)
theorem f213 (f:Value) (a b:List U) (ha:a.length<9000000000000000000) (Z:∀x∈a,∀y,dV G Tryz.prog f [.agg x.cs,.agg y.cs] (.bool (decide (x=y)))):
  Pure G Tryz.prog 213 [.lst 8 (a.map U.cs),.lst 8 (b.map U.cs),.sc f] (.bool (decide (a=b))):=by
 refine Pure.w c213 λR V=>?_
 unfold s213 r213
 by_cases O:a.length=b.length
 ·have M:decide ((a.length:Int)≠(b.length:Int))=false:=by simp[O]
  (repeat' (first|(with_reducible (refine ab (λh=>?_) (λh=>?_))<;>(try simp only[DZ]at h))|(with_reducible refine AI (by omega) ?_)|simp only[EVz,seval,↓reduceIte,EV6,EV7,M,E.yes,E.le0,E.lt',E.get,E.row,X,T.row,T.lt',F]|simp only[EVz,seval,↓reduceIte,EV6,EV7,M,E.yes,E.le0,E.lt',E.get,E.row,X,T.row,T.lt']|simp only[EVz,seval,↓reduceIte,EV6,EV7,M,hn]|simp only[EVz,seval,↓reduceIte,EV6,EV7,M]|(with_reducible intro Y N;(try(have I:=N;simp only[EVK]at I;first|(have F:=AI I F)|(have F:=I))))|(refine am E () ?_ (Weak.sub (SubN.nil _)))|(refine aD (Z _ E.mem y) ?_)|(refine ax (a) (λi r (c:Unit)=>a.length=b.length/\decide (a=b)=decide (r=b.drop i)) (λi c=>[(1,.lst 8 (b.map U.cs)),(2,.sc f),(15,.lst 8 (a.map U.cs)),(16,.int .i64 a.length),(17,.int .i64 i)]) (λ_ _=>[]) () (by((simp[*];done))) (Weak.rfl' _ _) (by omega) (λi x r c J E X=>?_) (λc J hn=>?_)<;>(try(obtain⟨y,r2,T,ac,J⟩:=eV J E)))))
  (all_goals(first|(refine RET.eq V ?_;((simp_all[O];done)))|(simp_all[O];done)))
 ·have M:decide ((a.length:Int)≠(b.length:Int))=true:=by simp;omega
  rw[dec_len O]at V
  (repeat' (simp only[EVz,seval,↓reduceIte,EV6,EV7,M]))
  (all_goals((exact RET.eq V rfl)))
theorem f177:∀(a:U),a.fit->∀b:U,Pure G Tryz.prog 177 [.agg a.cs,.agg b.cs] (.bool (decide (a=b))):=by
 refine U.ind λa ih E b=>?_
 have J:=(U.fit_eq a).1 E
 have M:=J.2.2.2.1
 refine Pure.w c177 λR F=>?_
 unfold s177 r177
 rw[U.dec]at F
 (repeat' (first|(with_reducible (refine ai (λh=>?_) (λh=>?_))<;>(try simp only[DZ]at h))|(with_reducible first|refine aa (f212 G _ _ (by omega)) ?_|refine aa (f213 G _ _ _ (by omega) (λx I y=>(ih x I (E.kid I) y).v)) ?_)|simp only[EVz,seval,↓reduceIte,EV6,EV7]))
 (all_goals(first|(refine RET.eq F ?_;(refine congrArg AV.bool (Bool.eq_iff_iff.2 ?_);simp only[EVB]at*;omega))|(refine RET.eq F ?_;((simp_all[];done)))))
end
end Go.Av
