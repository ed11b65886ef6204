/-
  LINT, 9: labels, addresses.
-/
import Derived.Test.YtnoakpkjccigoaaGreatDoorXL5toXL8
import Derived.Test.YtnoakpkjccigoaaGreatDoorShelf
import Derived.Shelf.Strings.FuncGrows
import Derived.Laws.RangeAny
import Derived.Lib.MinMax
namespace Go.Av
open Go Go.RowKit Go.Proofs List
set_option linter.unusedSimpArgs false
set_option linter.unusedVariables false
theorem W_listF {α ι:Type} {G:Glob} {P:Program} {a:SCode} {Q:Exit->Env->Store->Prop} {tQ:Tag Q} {env:Env} {σ:Store} (l:List α) (i0:Nat) (ok:Nat->List α->ι->Prop) (st:Nat->ι->Env) (ss:Nat->ι->Store) (c0:ι)
  (hi:i0<=l.length) (h0:ok i0 (l.drop i0) c0) (hw:Weak G env σ (st i0 c0) (ss i0 c0)) (hl:l.length<9000000000000000000)
  (more:∀i x r c,ok i (x::r) c->Rest l i x r->IntKind.i64.wrap ((i:Int)+1)=((i+1:Nat):Int)->W G P a (NR (LK G l ok st ss i) Q ⟨⟩ ⟨⟩) (st i c) (ss i c) ⟨⟩)
  (fin:∀c,ok l.length [] c->decide ((l.length:Int)<(l.length:Int))=false->W G P a (NR (LK G l ok st ss l.length) Q ⟨⟩ ⟨⟩) (st l.length c) (ss l.length c) ⟨⟩):W G P (.loop a) Q env σ tQ:=by
 refine jf (ι:=Nat×List α×ι) (λj=>l.drop j.1=j.2.1/\j.1<=l.length/\ok j.1 j.2.1 j.2.2) (λj=>l.length-j.1) (λj=>st j.1 j.2.2) (λj=>ss j.1 j.2.2) (i0,l.drop i0,c0) ⟨rfl,hi,h0⟩ hw ?_
 rintro⟨i,r,c⟩ ⟨h1,h2,h3⟩
 simp only at h1 h2 h3 ⊢
 cases r with
 |nil=>
  obtain rfl:=nt h1 h2
  exact fin c h3 (by simp)
 |cons x r=>
  have hx:=gk h1
  exact more i x r c h3 hx (jE (by have:=hx.lt;omega))
theorem eW (p:Nat->Bool) (hp:∀n,128<=n->p n=true) (s:List UInt8):∀(f pos:Nat),pos<=s.length->s.length-pos<=f->
  Lib.idxFuncFrom p true ⟨⟨s⟩⟩ f pos=idxF (λc:UInt8=>p c.toNat) pos (s.drop pos)
 |0,pos,h1,h2=>by
  have:s.drop pos=[]:=drop_eq_nil_of_le (by omega)
  rw[this];rfl
 |f+1,pos,h1,h2=>by
  have hsz:(⟨⟨s⟩⟩:ByteArray).size=s.length:=rfl
  unfold Lib.idxFuncFrom
  rw[hsz]
  by_cases hlt:pos<s.length
  ·have hps:pos<(⟨⟨s⟩⟩:ByteArray).size:=hlt
   have e:s.drop pos=s[pos]::s.drop (pos+1):=drop_eq_getElem_cons hlt
   have eb:(⟨⟨s⟩⟩:ByteArray)[pos]'hps=s[pos]:=rfl
   rw[if_pos hlt,e,idxF]
   by_cases ha:(s[pos]).toNat<128
   ·have hd:=decode_ascii (⟨⟨s⟩⟩:ByteArray) pos hps (by rw[eb];exact ha)
    rw[hd,eb]
    cases hpc:p (s[pos]).toNat with
    |true=>simp
    |false=>simp;exact eW p hp s f (pos+1) (by omega) (by omega)
   ·have hd:=decode_high (⟨⟨s⟩⟩:ByteArray) pos hps (by rw[eb];omega)
    rw[hp _ hd.1,hp _ (by omega)]
    simp
  ·rw[if_neg hlt,drop_eq_nil_of_le (by omega)]
   rfl
theorem nl {w w':World} (ev:Ev [] w [] w'):Below w.heap.size w w':=⟨ev.os,ev.tape,ev.output,ev.size,λk hk=>(ev.block k hk (by simp[Store.keys])).1⟩
section
variable (G:Glob)
theorem j0 {g:Nat} {p:Nat->Bool} {τ:Store} {w:World} (hS:Sat G τ w) (hg:∀n:Nat,Pure G Tryz.prog g [.int .i32 (n:Int)] (.bool (p n))):PredGrows Tryz.prog g #[] p w:=λW x hx hb=>by
 have:=(hg x).2 τ W (#[encR x]++#[]) (by simpa using Sat.below hS hb) (by simp[RepL,Rep])
 refine this.mono ?_
 rintro e w' ⟨v,r,σ',rfl,⟨rfl,rfl⟩,_,ev,hr⟩
 simp only[Rep]at hr
 exact⟨by rw[hr],nl ev⟩
theorem f267 (g:Nat) (p:Nat->Bool) (s:List UInt8) (eg:∀args w,(callFunc g args).run Tryz.prog w= .ok (.enter g args) w) (hp:∀n,128<=n->p n=true) (hg:∀n:Nat,Pure G Tryz.prog g [.int .i32 (n:Int)] (.bool (p n))):
  Pure G Tryz.prog 267 [.str s,.sc (.func (.func g) #[] #[])] (.int .i64 (idxF (λc:UInt8=>p c.toNat) 0 s)):=by
 refine Pure.of_calls Tryz.func267 (by kernel_rfl) (by kernel_rfl) λτ w vs hS hA=>?_
 obtain⟨u,v,rfl,h1,h2⟩:=ji hA
 simp only[Rep]at h1 h2
 subst h1 h2
 refine⟨.int .i64 (idxF (λc:UInt8=>p c.toNat) 0 s),λ_ _=>by simp only[Rep],?_⟩
 have h:=Any.strings_IndexFunc_grows Tryz.laysGw15 g #[] eg p ⟨⟨s⟩⟩ w (j0 G hS hg)
 have e:Lib.idxFunc p true ⟨⟨s⟩⟩=idxF (λc:UInt8=>p c.toNat) 0 s:=eW p hp s s.length 0 (by omega) (by omega)
 rw[e]at h
 exact h
theorem f219 (g:Nat) (p:Nat->Bool) (s:List UInt8) (eg:∀args w,(callFunc g args).run Tryz.prog w= .ok (.enter g args) w) (hp:∀n,128<=n->p n=true) (hg:∀n:Nat,Pure G Tryz.prog g [.int .i32 (n:Int)] (.bool (p n))):
  Pure G Tryz.prog 219 [.str s,.sc (.func (.func g) #[] #[])] (.bool (s.any λc:UInt8=>p c.toNat)):=by
 refine Pure.of_calls Tryz.func219 (by kernel_rfl) (by kernel_rfl) λτ w vs hS hA=>?_
 obtain⟨u,v,rfl,h1,h2⟩:=ji hA
 simp only[Rep]at h1 h2
 subst h1 h2
 refine⟨.bool (s.any λc:UInt8=>p c.toNat),λ_ _=>by simp only[Rep],?_⟩
 have h:=Any.strings_ContainsFunc_grows Tryz.laysGw17 g #[] eg p ⟨⟨s⟩⟩ w (j0 G hS hg)
 have e:Lib.idxFunc p true ⟨⟨s⟩⟩=idxF (λc:UInt8=>p c.toNat) 0 s:=eW p hp s s.length 0 (by omega) (by omega)
 rw[e,d7]at h
 exact h
def ik (n:Nat):Bool:=decide (n<48)||decide (57<n)
def jX (n:Nat):Bool:=decide (n<65)||decide (90<n)
theorem f268 (n:Nat):Pure G Tryz.prog 268 [.int .i32 (n:Int)] (.bool (ik n)):=by
 refine Pure.w c268 λR hR=>?_
 unfold s268 r268
 (repeat' (first|(with_reducible (refine ai (λh=>?_) (λh=>?_))<;>(try simp only[Da,Db,Dc,Dw,De,Df,Dg,Dh]at h))|simp only[EVz,seval,↓reduceIte,EV6,EV7]|fail))
 (all_goals(((refine RET.eq hR ?_;(refine congrArg AV.bool (Bool.eq_iff_iff.2 ?_);simp only[ik,EVB]at*;omega)))))
theorem f218 (n:Nat):Pure G Tryz.prog 218 [.int .i32 (n:Int)] (.bool (jX n)):=by
 refine Pure.w c218 λR hR=>?_
 unfold s218 r218
 (repeat' (first|(with_reducible (refine ai (λh=>?_) (λh=>?_))<;>(try simp only[Da,Db,Dc,Dw,De,Df,Dg,Dh]at h))|simp only[EVz,seval,↓reduceIte,EV6,EV7]|fail))
 (all_goals(((refine RET.eq hR ?_;(refine congrArg AV.bool (Bool.eq_iff_iff.2 ?_);simp only[jX,EVB]at*;omega)))))
theorem nI:∀(s:List UInt8) (i:Nat),idxF (λc:UInt8=>ik c.toNat) i s=if digN s<s.length then ((i+digN s:Nat):Int)else -1
 |[],i=>rfl
 |c::s,i=>by
  unfold idxF digN
  have hd:ik c.toNat= !jC c:=by
   unfold ik jC
   rw[Bool.eq_iff_iff]
   simp<;>omega
  rw[hd]
  cases h:jC c with
  |true=>
   simp only[Bool.not_true,if_true,Bool.false_eq_true,if_false]
   rw[nI s (i+1)]
   simp only[length_cons]
   by_cases hl:digN s<s.length
   ·rw[if_pos hl,if_pos (by omega)];congr 1;omega
   ·rw[if_neg hl,if_neg (by omega)]
  |false=>simp
theorem any_up (s:List UInt8):(s.any λc:UInt8=>jX c.toNat)= !(s.all isUp):=by
 induction s with
 |nil=>rfl
 |cons c s ih=>
  rw[any_cons,all_cons,ih]
  have hd:jX c.toNat= !isUp c:=by
   unfold jX isUp
   rw[Bool.eq_iff_iff]
   simp<;>omega
  rw[hd]
  cases isUp c<;>simp
theorem f217 (s:List UInt8):Pure G Tryz.prog 217 [.str s] (.tup [.str (s.take (digN s)),.str (s.drop (digN s))]):=by
 refine Pure.w c217 λR hR=>?_
 unfold s217 r217
 have hle:=jO s
 have hc:=f267 G 268 ik s (enters_of Tryz.func268 (by kernel_rfl) rfl) (λn hn=>by simp[ik];omega) (λn=>f268 G n)
 rw[nI s 0,Nat.zero_add]at hc
 by_cases h:digN s<s.length
 ·rw[if_pos h]at hc
  (repeat' (first|(with_reducible (refine ab (λh=>?_) (λh=>?_))<;>(try simp only[Da,Db,Dc,Dw,De,Df,Dg,Dh]at h))|(with_reducible refine AI (by omega) ?_)|(with_reducible refine aa hc ?_)|simp only[EVz,seval,↓reduceIte,EV6,EV7]|(exfalso;omega)|fail))
  (all_goals(((refine RET.eq hR ?_;((simp_all[];done))))))
 ·rw[if_neg h]at hc
  have e:digN s=s.length:=by omega
  rw[e,take_length,drop_length]at hR
  (repeat' (first|(with_reducible refine aa hc ?_)|simp only[EVz,seval,↓reduceIte,EV6,EV7]|fail))
  (all_goals((exact RET.eq hR rfl)))
theorem f129 (s:List UInt8):Pure G Tryz.prog 129 [.str s] (.bool (br s)):=by
 refine Pure.w c129 λR hR=>?_
 unfold s129 r129
 have hle:=jO s
 have hmin:min (digN s) s.length=digN s:=Nat.min_eq_left hle
 have hcu:=f219 G 218 jX (s.drop (digN s)) (enters_of Tryz.func218 (by kernel_rfl) rfl) (λn hn=>by simp[jX];omega) (λn=>f218 G n)
 rw[any_up]at hcu
 by_cases h1:1<=digN s
 ·have hg:(s.take (digN s)).getD 0 0=s.getD 0 0:=by simp[List.getD,getElem?_take,show 0<digN s by omega]
  (repeat' (first|(with_reducible (refine ai (λh=>?_) (λh=>?_))<;>(try simp only[Da,Db,Dc,Dw,De,Df,Dg,Dh]at h))|(with_reducible refine AI (by omega) ?_)|(with_reducible first|refine aa (f217 G s) ?_|refine aa hcu ?_)|simp only[EVz,seval,↓reduceIte,EV6,EV7,length_take,length_drop,hmin,hg,Bool.not_not]|(exfalso;omega)|fail))
  (all_goals(first|(refine RET.eq hR ?_;(refine congrArg AV.bool (Bool.eq_iff_iff.2 ?_);simp only[br,EVB]at*;omega))|(refine RET.eq hR ?_;((simp_all[br];done)))))
 ·have hf:br s=false:=by simp[br,show ¬((1:Int)<=digN s)by omega]
  rw[hf]at hR
  (repeat' (first|(with_reducible (refine ai (λh=>?_) (λh=>?_))<;>(try simp only[Da,Db,Dc,Dw,De,Df,Dg,Dh]at h))|(with_reducible refine AI (by omega) ?_)|(with_reducible first|refine aa (f217 G s) ?_|refine aa hcu ?_)|simp only[EVz,seval,↓reduceIte,EV6,EV7,length_take,length_drop,hmin]|(exfalso;omega)|fail))
  (all_goals((exact RET.eq hR rfl)))
theorem f78 (s:List UInt8) (hs:s.length<1000000000000000000):Pure G Tryz.prog 78 [.str s] (.bool (br s)):=by
 refine Pure.w c78 λR hR=>?_
 unfold s78 r78
 have hle:=jO s
 have hw2:IntKind.i64.wrap ((s.length:Int)-(digN s:Int))=((s.length-digN s:Nat):Int):=by rw[aA (by omega) (by omega)];omega
 (repeat' (first|(with_reducible (first|refine ab (λh=>?_) (λh=>?_)|refine ai (λh=>?_) (λh=>?_))<;>(try simp only[Da,Db,Dc,Dw,De,Df,Dg,Dh]at h))|(with_reducible refine AI (by omega) ?_)|(with_reducible refine aa (f142 G s hs) ?_)|simp only[EVz,seval,↓reduceIte,EV6,EV7,hw2,hx.yes,hx.le0,hx.lt',hx.get,hx.row,hw]|simp only[EVz,seval,↓reduceIte,EV6,EV7,hw2,hn]|simp only[EVz,seval,↓reduceIte,EV6,EV7,hw2]|(refine ap hx () ?_ (Weak.rfl' _ _))|(refine W_listF s (digN s) (λi r (c:Unit)=>(s.drop (digN s)).all isUp=r.all isUp) (λi c=>[(0,.str s),(4,.int .i64 i)]) (λ_ _=>[]) () hle rfl (Weak.rfl' _ _) (by omega) (λi x r c hok hx hw=>?_) (λc hok hn=>?_))|fail))
 (all_goals(first|(refine RET.eq hR ?_;(refine congrArg AV.bool (Bool.eq_iff_iff.2 ?_);simp only[br,isUp,EVB]at*;omega))|(refine RET.eq hR ?_;first|(simp_all[br,isUp];done)|(simp_all[br,isUp];omega))|(simp_all[br,isUp];done)))
end
section
variable (G:Glob)
theorem f100 (p:List Stp) (hl:p.length<1000000):Pure G Tryz.prog 100 [.lst 2 (p.map Stp.cs)] (.bool (dU p)):=by
 refine Pure.w c100 λR hR=>?_
 unfold s100 r100
 (repeat' (first|(with_reducible (first|refine ab (λh=>?_) (λh=>?_)|refine ai (λh=>?_) (λh=>?_))<;>(try simp only[Da,Db,Dc,Dw,De,Df,Dg,Dh]at h))|(with_reducible first|refine aa (f189 G _ _) ?_|refine aa (f129 G _) ?_)|simp only[EVz,seval,↓reduceIte,EV6,EV7,hx.yes,hx.le0,hx.lt',hx.get,hx.row,hw]|simp only[EVz,seval,↓reduceIte,EV6,EV7,hn]|simp only[EVz,seval,↓reduceIte,EV6,EV7]|(with_reducible intro blk hblk;(try(have hnx:=hblk;simp only[EVK]at hnx;(have hne:=hnx))))|(refine ap hx () ?_ (Weak.sub (SubN.nil _)))|(refine ay (p) (λi r (c:Unit)=>d8 0 p=d8 i r) (λi c=>[(0,.lst 2 (p.map Stp.cs)),(5,.lst 2 (p.map Stp.cs)),(6,.int .i64 p.length),(7,.int .i64 i)]) (λ_ _=>[]) () (by rfl) (Weak.rfl' _ _) (by omega) (λi x r c hok hx hw=>?_) (λc hok hn=>?_))|fail))
 (all_goals(first|(refine RET.eq hR ?_;first|(simp only[dU,d8,i8,hok,EVC,decide_true,decide_false];done)|(simp_all[dU,d8,i8];done)|(simp_all[dU,d8,i8];omega))|(simp_all[dU,d8,i8];done)|(simp_all[dU,d8,i8];omega)))
end
mutual
def U.size:U->Int->Int->Int
 |⟨_,_,_,_,_,ks⟩,d,m=>if 20<d then m+1 else U.sizes ks d m 1
def U.sizes:List U->Int->Int->Int->Int
 |[],_,_,n=>n
 |u::us,d,m,n=>if n<=m then U.sizes us d m (n+U.size u (d+1) (m-n))else n
end
theorem U.size_eq (u:U) (d m:Int):u.size d m=if 20<d then m+1 else U.sizes u.kids d m 1:=by cases u;rw[U.size]
theorem U.size_ok:∀(u:U) (d m:Int),0<=m->1<=u.size d m/\u.size d m<=m+1/\(u.size d m<=m->d<=20/\(u.flat.length:Int)=u.size d m):=by
 refine U.ind λu ih d m hm=>?_
 rw[U.size_eq]
 split
 ·exact⟨by omega,by omega,by omega⟩
 ·rename_i hd
  have key:∀(us:List U) (n:Int),(∀k∈us,k∈u.kids)->1<=n->n<=m+1->n<=U.sizes us d m n/\U.sizes us d m n<=m+1/\(U.sizes us d m n<=m->n+((U.flats us).length:Int)=U.sizes us d m n):=by
   intro us
   induction us with
   |nil=>intro n _ h1 h2;simp[U.sizes,U.flats];omega
   |cons k us ihu=>
    intro n hk h1 h2
    rw[U.sizes]
    split
    ·rename_i hn
     obtain⟨a1,a2,a3⟩:=ih k (hk k (by simp)) (d+1) (m-n) (by omega)
     obtain⟨b1,b2,b3⟩:=ihu (n+k.size (d+1) (m-n)) (λq hq=>hk q (by simp[hq])) (by omega) (by omega)
     refine⟨by omega,b2,λh=>?_⟩
     have c1:=(a3 (by omega)).2
     have c2:=b3 h
     rw[U.flats,length_append]
     omega
    ·exact⟨by omega,by omega,by omega⟩
  obtain⟨k1,k2,k3⟩:=key u.kids 1 (λ_ h=>h) (by omega) (by omega)
  refine⟨by omega,k2,λh=>⟨by omega,?_⟩⟩
  have:=k3 h
  rw[U.flat_eq,length_cons]
  omega
def eR (l:List Wd):Bool:=(l.all λw=>decide ((w.text.length:Int)<=100))&&decide ((l.length:Int)<=300)
mutual
def U.shorts:U->Bool
 |⟨_,_,l,h,w,ks⟩=>decide ((l.length:Int)<=30)&&(eR h&&(eR w&&U.shortss ks))
def U.shortss:List U->Bool
 |[]=>true
 |u::us=>U.shorts u&&U.shortss us
end
theorem U.shorts_eq (u:U):u.shorts=(decide ((u.label.length:Int)<=30)&&(eR u.head&&(eR u.words&&U.shortss u.kids))):=by cases u;rw[U.shorts]
def U.few (u:U) (m:Int):Bool:=decide (u.size 0 m<=m)&&u.shorts
section
variable {G:Glob} {P:Program}
theorem RAW_max {a b:Int} {i j:Nat} {t t':TypeId} {env:Env} {σ:Store} {K:AV->Store->Prop} (hi:env.get i= .int .i64 a) (hj:env.get j= .int .i64 b) (hk:K (.int .i64 (max a b)) σ):
  RAW G P (.call (.mk (.builtin .max) #[.tmp i,.tmp j] #[t,t'])) env σ K ⟨⟩:=by
 refine cW _ (λρ w ac op ho hS hE=>?_) hk
 have h1:=hE i
 have h2:=hE j
 rw[hi]at h1
 rw[hj]at h2
 simp only[Rep]at h1 h2
 refine⟨.int .i64 (max a b),?_,by simp only[Rep]⟩
 have e1:ac.eval (.tmp i)= .int .i64 a:=h1
 have e2:ac.eval (.tmp j)= .int .i64 b:=h2
 simp[execOp,ho,resolve,invoke,builtin,e1,e2,Lib.run_max_ints]
end
mutual
def U.fit:U->Prop
 |⟨_,_,l,h,w,ks⟩=>l.length<1000000000000000000/\(h.length<1000000000000000000/\∀x∈h,x.text.length<1000000000000000000)/\(w.length<1000000000000000000/\∀x∈w,x.text.length<1000000000000000000)/\ks.length<1000000000000000000/\U.fits ks
def U.fits:List U->Prop
 |[]=>True
 |u::us=>U.fit u/\U.fits us
end
theorem U.fits_iff:∀{us:List U},U.fits us↔∀k∈us,k.fit
 |[]=>by simp[U.fits]
 |u::us=>by simp[U.fits,U.fits_iff (us:=us)]
theorem U.fit_eq (u:U):u.fit↔u.label.length<1000000000000000000/\(u.head.length<1000000000000000000/\∀x∈u.head,x.text.length<1000000000000000000)/\(u.words.length<1000000000000000000/\∀x∈u.words,x.text.length<1000000000000000000)/\u.kids.length<1000000000000000000/\∀k∈u.kids,k.fit:=by
 cases u
 rw[U.fit,U.fits_iff]
section
variable (G:Glob)
theorem f24:∀(u:U) (d m:Int),u.fit->0<=d->d<=1000->0<=m->m<=1000000->Pure G Tryz.prog 24 [.agg u.cs,.int .i64 d,.int .i64 m] (.int .i64 (u.size d m)):=by
 refine U.ind λu ih d m hfit hd0 hd1 hm0 hm1=>?_
 have hf:=(U.fit_eq u).1 hfit
 have hkl:=hf.2.2.2.1
 refine Pure.w c24 λR hR=>?_
 unfold s24 r24
 have hwm:IntKind.i64.wrap (m+1)=m+1:=aA (by omega) (by omega)
 have hwd:IntKind.i64.wrap (d+1)=d+1:=aA (by omega) (by omega)
 rw[U.size_eq]at hR
 (repeat' (first|(with_reducible (refine ab (λh=>?_) (λh=>?_))<;>(try simp only[Da,Db,Dc,Dw,De,Df,Dg,Dh]at h))|(with_reducible refine aa (ih x hx.mem (d+1) (m-c) (hf.2.2.2.2 x hx.mem) (by omega) (by omega) (by omega) (by omega)) ?_)|simp only[EVz,seval,↓reduceIte,EV6,EV7,hwm,hwd,hx.yes,hx.le0,hx.lt',hx.get,hx.row,hw,hwc]|simp only[EVz,seval,↓reduceIte,EV6,EV7,hwm,hwd,hn]|simp only[EVz,seval,↓reduceIte,EV6,EV7,hwm,hwd]|(refine ay (ι:=Int) (u.kids) (λi r c=>U.sizes u.kids d m 1=U.sizes r d m c/\1<=c/\c<=m+1) (λi c=>[(1,.int .i64 d),(2,.int .i64 m),(3,.ref u.cs),(7,.int .i64 c),(8,.int .i64 i)]) (λ_ _=>[]) (1) (by((simp;omega))) (Weak.rfl' _ _) (by omega) (λi x r c hok hx hw=>?_) (λc hok hn=>?_)<;>(try(have hwc:IntKind.i64.wrap (m-c)=m-c:=aA (by omega) (by omega))))|(refine ap hx _ ?_ (Weak.rfl' _ _))|fail))
 ·exact RET.eq hR (by rw[if_pos h])
 ·obtain⟨a1,a2,a3⟩:=U.size_ok x (d+1) (m-c) (by omega)
  have e:IntKind.i64.wrap (c+x.size (d+1) (m-c))=c+x.size (d+1) (m-c):=aA (by omega) (by omega)
  rw[e]
  refine⟨?_,by omega,by omega⟩
  rw[hok.1,U.sizes,if_pos h]
 ·exact RET.eq hR (by rw[if_neg (by omega),hok.1,U.sizes,if_neg (by omega)])
 ·exact RET.eq hR (by rw[if_neg (by omega),hok.1,U.sizes])
theorem f50 (l:List Wd) (hl:l.length<1000000000000000000):Pure G Tryz.prog 50 [.lst 4 (l.map Wd.cs)] (.bool (eR l)):=by
 refine Pure.w c50 λR hR=>?_
 unfold s50 r50
 (repeat' (first|(with_reducible (refine ab (λh=>?_) (λh=>?_))<;>(try simp only[Da,Db,Dc,Dw,De,Df,Dg,Dh]at h))|simp only[EVz,seval,↓reduceIte,EV6,EV7,hx.yes,hx.le0,hx.lt',hx.get,hx.row,hw]|simp only[EVz,seval,↓reduceIte,EV6,EV7,hn]|simp only[EVz,seval,↓reduceIte,EV6,EV7]|(refine ap hx () ?_ (Weak.rfl' _ _))|(refine ay (l) (λi r (c:Unit)=>(l.all λw=>decide ((w.text.length:Int)<=100))=r.all λw=>decide ((w.text.length:Int)<=100)) (λi c=>[(0,.lst 4 (l.map Wd.cs)),(3,.int .i64 i)]) (λ_ _=>[]) () (by rfl) (Weak.rfl' _ _) (by omega) (λi x r c hok hx hw=>?_) (λc hok hn=>?_))|fail))
 (all_goals(first|(refine RET.eq hR ?_;first|(simp only[eR,hok,EVC,decide_true,decide_false];done)|(simp_all[eR];omega))|(rw[hok];simp only[eR,h,EVC,decide_true,decide_false];done)))
theorem f25:∀(u:U),u.fit->Pure G Tryz.prog 25 [.agg u.cs] (.bool u.shorts):=by
 refine U.ind λu ih hfit=>?_
 have hf:=(U.fit_eq u).1 hfit
 have hkl:=hf.2.2.2.1
 refine Pure.w c25 λR hR=>?_
 unfold s25 r25
 rw[U.shorts_eq]at hR
 (repeat' (first|(with_reducible (first|refine ab (λh=>?_) (λh=>?_)|refine ai (λh=>?_) (λh=>?_))<;>(try simp only[Da,Db,Dc,Dw,De,Df,Dg,Dh]at h))|(with_reducible first|refine aa (f50 G _ hf.2.1.1) ?_|refine aa (f50 G _ hf.2.2.1.1) ?_|refine aa (ih x hx.mem (hf.2.2.2.2 x hx.mem)) ?_)|simp only[EVz,seval,↓reduceIte,EV6,EV7,hx.yes,hx.le0,hx.lt',hx.get,hx.row,hw]|simp only[EVz,seval,↓reduceIte,EV6,EV7,hn]|simp only[EVz,seval,↓reduceIte,EV6,EV7]|(refine ap hx () ?_ (Weak.rfl' _ _))|(refine ay (u.kids) (λi r (c:Unit)=>U.shortss u.kids=U.shortss r) (λi c=>[(1,.ref u.cs),(3,.int .i64 i)]) (λ_ _=>[]) () (by rfl) (Weak.rfl' _ _) (by omega) (λi x r c hok hx hw=>?_) (λc hok hn=>?_))|fail))
 (all_goals(first|(refine RET.eq hR ?_;(refine congrArg AV.bool (Bool.eq_iff_iff.2 ?_);simp only[U.shortss,EVB]at*;omega))|(refine RET.eq hR ?_;first|(simp only[U.shortss,hok,h,EVC,decide_true,decide_false];done)|(simp_all[U.shortss];done))|(rw[hok];simp only[U.shortss,h,EVC,decide_true,decide_false];done)))
theorem f9 (u:U) (m:Int) (hfit:u.fit) (hm0:0<=m) (hm:m<=1000000):Pure G Tryz.prog 9 [.agg u.cs,.int .i64 m] (.bool (u.few m)):=by
 refine Pure.w c9 λR hR=>?_
 unfold s9 r9
 (repeat' (first|(with_reducible (refine ai (λh=>?_) (λh=>?_))<;>(try simp only[Da,Db,Dc,Dw,De,Df,Dg,Dh]at h))|(with_reducible first|refine aa (f24 G u 0 m hfit (by omega) (by omega) hm0 hm) ?_|refine aa (f25 G u hfit) ?_)|simp only[EVz,seval,↓reduceIte,EV6,EV7]|fail))
 (all_goals(first|(refine RET.eq hR ?_;(refine congrArg AV.bool (Bool.eq_iff_iff.2 ?_);simp only[U.few,EVB]at*;omega))|(refine RET.eq hR ?_;((simp_all[U.few];done)))))
def U.Tame (u:U):Prop:=u.fit/\u.flat.length<1000000
theorem U.flats_mem {us:List U} {k:U} (h:k∈us):k.flat.length<=(U.flats us).length:=by
 induction us with
 |nil=>cases h
 |cons a us ih=>
  rw[U.flats,length_append]
  rcases mem_cons.1 h with rfl|h
  ·omega
  ·have:=ih h;omega
theorem U.flat_pos (u:U):1<=u.flat.length:=by rw[U.flat_eq];simp
theorem U.flats_len (us:List U):us.length<=(U.flats us).length:=by
 induction us with
 |nil=>simp
 |cons a us ih=>rw[U.flats,length_append,length_cons];have:=a.flat_pos;omega
theorem U.Tame.kid {u k:U} (h:u.Tame) (hk:k∈u.kids):k.Tame:=by
 refine⟨((U.fit_eq u).1 h.1).2.2.2.2 k hk,?_⟩
 have:=U.flats_mem hk
 have h2:=h.2
 rw[U.flat_eq,length_cons]at h2
 omega
theorem U.Tame.kids {u:U} (h:u.Tame):u.kids.length<1000000:=by
 have:=U.flats_len u.kids
 have h2:=h.2
 rw[U.flat_eq,length_cons]at h2
 omega
def U.cnt (u:U):Int:=u.flat.length
def U.cnts (us:List U):Int:=(U.flats us).length
theorem U.cnt_eq (u:U):u.cnt=1+U.cnts u.kids:=by unfold U.cnt U.cnts;rw[U.flat_eq,length_cons];omega
theorem U.cnts_cons (u:U) (us:List U):U.cnts (u::us)=u.cnt+U.cnts us:=by unfold U.cnt U.cnts;rw[U.flats,length_append];omega
theorem U.cnts_nil:U.cnts []=0:=rfl
theorem U.cnts_ge (us:List U):0<=U.cnts us:=by unfold U.cnts;omega
theorem U.cnt_ge (u:U):1<=u.cnt:=by have:=u.flat_pos;unfold U.cnt;omega
theorem f138:∀(u:U),u.Tame->Pure G Tryz.prog 138 [.agg u.cs] (.int .i64 u.cnt):=by
 refine U.ind λu ih ht=>?_
 have hkl:=ht.kids
 have hc:=ht.2
 have hce:(u.flat.length:Int)=u.cnt:=rfl
 refine Pure.w c138 λR hR=>?_
 unfold s138 r138
 rw[U.cnt_eq]at hR hce
 (repeat' (first|(with_reducible refine aa (ih x hx.mem (ht.kid hx.mem)) ?_)|simp only[EVz,seval,↓reduceIte,EV6,EV7,hx.yes,hx.le0,hx.lt',hx.get,hx.row,hw]|simp only[EVz,seval,↓reduceIte,EV6,EV7,hn]|simp only[EVz,seval,↓reduceIte,EV6,EV7]|(refine ay (ι:=Int) (u.kids) (λi r c=>1+U.cnts u.kids=c+U.cnts r/\1<=c) (λi c=>[(1,.ref u.cs),(3,.int .i64 c),(4,.int .i64 i)]) (λ_ _=>[]) (1) (by((simp;done))) (Weak.rfl' _ _) (by omega) (λi x r c hok hx hw=>?_) (λc hok hn=>?_))|(refine ap hx _ ?_ (Weak.rfl' _ _))|fail))
 ·rw[U.cnts_cons]at hok
  have:=U.cnt_ge x
  have:=U.cnts_ge r
  rw[aA (by omega) (by omega)]
  omega
 ·exact RET.eq hR (by rw[hok.1,U.cnts_nil];simp)
def U.dep (u:U):Int:=u.deep
def U.deps (us:List U):Int:=U.deeps us
theorem U.dep_eq (u:U):u.dep=U.deps u.kids:=by unfold U.dep U.deps;rw[U.deep_eq]
theorem U.deps_cons (u:U) (us:List U):U.deps (u::us)=max (1+u.dep) (U.deps us):=by unfold U.dep U.deps;rw[U.deeps];omega
theorem U.deps_nil:U.deps []=0:=rfl
theorem U.dep_ge (u:U):0<=u.dep:=by unfold U.dep;omega
theorem U.dep_cnt:∀u:U,u.dep<u.cnt:=by
 refine U.ind λu ih=>?_
 rw[U.dep_eq,U.cnt_eq]
 have key:∀us:List U,(∀k∈us,k.dep<k.cnt)->U.deps us<=U.cnts us:=by
  intro us
  induction us with
  |nil=>intro _;simp[U.deps_nil,U.cnts_nil]
  |cons a us iha=>
   intro h
   have h1:=h a (by simp)
   have h2:=iha λk hk=>h k (by simp[hk])
   rw[U.deps_cons,U.cnts_cons]
   have:=U.cnts_ge us
   have:=U.cnt_ge a
   omega
 have:=key u.kids ih
 omega
theorem f77:∀(u:U),u.Tame->Pure G Tryz.prog 77 [.agg u.cs] (.int .i64 u.dep):=by
 refine U.ind λu ih ht=>?_
 have hkl:=ht.kids
 have hd0:0<=U.deps u.kids:=by rw[←U.dep_eq];exact u.dep_ge
 refine Pure.w c77 λR hR=>?_
 unfold s77 r77
 rw[U.dep_eq]at hR
 (repeat' (first|(with_reducible refine aa (ih x hx.mem (ht.kid hx.mem)) ?_)|simp only[EVz,seval,↓reduceIte,EV6,EV7,hx.yes,hx.le0,hx.lt',hx.get,hx.row,hw,hwx]|simp only[EVz,seval,↓reduceIte,EV6,EV7,hn]|simp only[EVz,seval,↓reduceIte,EV6,EV7]|(refine ay (ι:=Int) (u.kids) (λi r c=>U.deps u.kids=max c (U.deps r)/\0<=c) (λi c=>[(1,.ref u.cs),(3,.int .i64 c),(4,.int .i64 i)]) (λ_ _=>[]) (0) (by((simp;omega))) (Weak.rfl' _ _) (by omega) (λi x r c hok hx hw=>?_) (λc hok hn=>?_)<;>(try(have hwx:IntKind.i64.wrap (1+x.dep)=1+x.dep:=aA (by have:=x.dep_ge;omega) (by have h1:=x.dep_cnt;have h2:=(ht.kid hx.mem).2;have h3:(x.flat.length:Int)=x.cnt:=rfl;omega))))|(refine ap hx _ ?_ (Weak.rfl' _ _))|(refine RAW_max rfl rfl ?_)|fail))
 ·rw[U.deps_cons]at hok;omega
 ·exact RET.eq hR (by rw[hok.1,U.deps_nil,Int.max_eq_left hok.2])
theorem f125:∀(u:U),u.Tame->Pure G Tryz.prog 125 [.agg u.cs] (.int .i64 u.dep):=by
 refine U.ind λu ih ht=>?_
 have hkl:=ht.kids
 have hd0:0<=U.deps u.kids:=by rw[←U.dep_eq];exact u.dep_ge
 refine Pure.w c125 λR hR=>?_
 unfold s125 r125
 rw[U.dep_eq]at hR
 (repeat' (first|(with_reducible refine aa (ih x hx.mem (ht.kid hx.mem)) ?_)|simp only[EVz,seval,↓reduceIte,EV6,EV7,hx.yes,hx.le0,hx.lt',hx.get,hx.row,hw,hwx]|simp only[EVz,seval,↓reduceIte,EV6,EV7,hn]|simp only[EVz,seval,↓reduceIte,EV6,EV7]|(with_reducible intro blk hblk;(try(have hnx:=hblk;simp only[EVK]at hnx;(have hne:=hnx))))|(refine ay (ι:=Int) (u.kids) (λi r c=>U.deps u.kids=max c (U.deps r)/\0<=c) (λi c=>[(3,.int .i64 c),(7,.lst 8 (u.kids.map U.cs)),(8,.int .i64 u.kids.length),(9,.int .i64 i)]) (λ_ _=>[]) (0) (by((simp;omega))) (Weak.rfl' _ _) (by omega) (λi x r c hok hx hw=>?_) (λc hok hn=>?_)<;>(try(have hwx:IntKind.i64.wrap (1+x.dep)=1+x.dep:=aA (by have:=x.dep_ge;omega) (by have h1:=x.dep_cnt;have h2:=(ht.kid hx.mem).2;have h3:(x.flat.length:Int)=x.cnt:=rfl;omega))))|(refine ap hx _ ?_ (Weak.sub (SubN.nil _)))|(refine RAW_max rfl rfl ?_)|fail))
 ·rw[U.deps_cons]at hok;omega
 ·exact RET.eq hR (by rw[hok.1,U.deps_nil,Int.max_eq_left hok.2])
end
theorem mu (a b:Idd):decide (a=b)=(decide (a.act=b.act)&&(decide (a.item=b.item)&&decide (a.n=b.n))):=by
 cases a;cases b
 rw[Bool.eq_iff_iff];simp
theorem U.dec (a b:U):decide (a=b)=((decide (a.id.act=b.id.act)&&(decide (a.id.item=b.id.item)&&decide (a.id.n=b.id.n)))&&(decide (a.kind=b.kind)&&(decide (a.label=b.label)&&(decide (a.head=b.head)&&(decide (a.words=b.words)&&decide (a.kids=b.kids)))))):=by
 rw[←mu]
 cases a;cases b
 rw[Bool.eq_iff_iff];simp
theorem mD {α:Type} [DecidableEq α] {a b:List α} (h:a.length≠b.length):decide (a=b)=false:=by
 simp;rintro rfl;exact h rfl
theorem U.fit.kid {u k:U} (h:u.fit) (hk:k∈u.kids):k.fit:=((U.fit_eq u).1 h).2.2.2.2 k hk
section
variable (G:Glob)
theorem f16:∀(a:U),a.fit->∀b:U,Pure G Tryz.prog 16 [.agg a.cs,.agg b.cs] (.bool (decide (a=b))):=by
 refine U.ind λa ih hfit b=>?_
 have hf:=(U.fit_eq a).1 hfit
 have hkl:=hf.2.2.2.1
 refine Pure.w c16 λR hR=>?_
 unfold s16 r16
 rw[U.dec]at hR
 by_cases hl:a.kids.length=b.kids.length
 ·have e0:decide ((a.kids.length:Int)≠(b.kids.length:Int))=false:=by simp[hl]
  (repeat' (first|(with_reducible (first|refine ab (λh=>?_) (λh=>?_)|refine ai (λh=>?_) (λh=>?_))<;>(try simp only[Da,Db,Dc,Dw,De,Df,Dg,Dh]at h))|(with_reducible refine AI (by omega) ?_)|(with_reducible first|refine aa (f42 G _ _ (by omega)) ?_|refine aa (ih x hx.mem (hfit.kid hx.mem) y) ?_)|simp only[EVz,seval,↓reduceIte,EV6,EV7,e0,hx.yes,hx.le0,hx.lt',hx.get,hx.row,hw,hy.row,hy.lt']|simp only[EVz,seval,↓reduceIte,EV6,EV7,e0,hn]|simp only[EVz,seval,↓reduceIte,EV6,EV7,e0]|(with_reducible refine ae ?_ ?_)|(with_reducible refine af ?_)|(refine ap hx () ?_ (Weak.rfl' _ _))|(refine ay (a.kids) (λi r (c:Unit)=>a.kids.length=b.kids.length/\decide (a.kids=b.kids)=decide (r=b.kids.drop i)) (λi c=>[(2,.ref a.cs),(3,.ref b.cs),(5,.int .i64 i)]) (λ_ _=>[]) () (by((simp[*];done))) (Weak.rfl' _ _) (by omega) (λi x r c hok hx hw=>?_) (λc hok hn=>?_)<;>(try(obtain⟨y,r2,hy,hyn,hok⟩:=dv hok hx)))|fail))
  (all_goals(first|(refine RET.eq hR ?_;(refine congrArg AV.bool (Bool.eq_iff_iff.2 ?_);simp only[hl,EVB]at*;omega))|(refine RET.eq hR ?_;((simp_all[hl];done)))|(simp_all[hl];done)))
 ·have e0:decide ((a.kids.length:Int)≠(b.kids.length:Int))=true:=by simp;omega
  rw[mD hl]at hR
  (repeat' (first|(with_reducible (refine ai (λh=>?_) (λh=>?_))<;>(try simp only[Da,Db,Dc,Dw,De,Df,Dg,Dh]at h))|(with_reducible refine aa (f42 G _ _ (by omega)) ?_)|simp only[EVz,seval,↓reduceIte,EV6,EV7,e0]|fail))
  (all_goals(first|(refine RET.eq hR ?_;(refine congrArg AV.bool (Bool.eq_iff_iff.2 ?_);simp only[EVB]at*;omega))|(refine RET.eq hR ?_;((simp_all[];done)))))
theorem f258 (f:Value) (a b:List U) (ha:a.length<9000000000000000000) (hf:∀x∈a,∀y,eZ G Tryz.prog f [.agg x.cs,.agg y.cs] (.bool (decide (x=y)))):
  Pure G Tryz.prog 258 [.lst 8 (a.map U.cs),.lst 8 (b.map U.cs),.sc f] (.bool (decide (a=b))):=by
 refine Pure.w c258 λR hR=>?_
 unfold s258 r258
 by_cases hl:a.length=b.length
 ·have e0:decide ((a.length:Int)≠(b.length:Int))=false:=by simp[hl]
  (repeat' (first|(with_reducible (refine ab (λh=>?_) (λh=>?_))<;>(try simp only[Da,Db,Dc,Dw,De,Df,Dg,Dh]at h))|(with_reducible refine AI (by omega) ?_)|simp only[EVz,seval,↓reduceIte,EV6,EV7,e0,hx.yes,hx.le0,hx.lt',hx.get,hx.row,hw,hy.row,hy.lt',hne]|simp only[EVz,seval,↓reduceIte,EV6,EV7,e0,hx.yes,hx.le0,hx.lt',hx.get,hx.row,hw,hy.row,hy.lt']|simp only[EVz,seval,↓reduceIte,EV6,EV7,e0,hn]|simp only[EVz,seval,↓reduceIte,EV6,EV7,e0]|(with_reducible intro blk hblk;(try(have hnx:=hblk;simp only[EVK]at hnx;first|(have hne:=AI hnx hne)|(have hne:=hnx))))|(refine ap hx () ?_ (Weak.sub (SubN.nil _)))|(refine aI (hf _ hx.mem y) ?_)|(refine ay (a) (λi r (c:Unit)=>a.length=b.length/\decide (a=b)=decide (r=b.drop i)) (λi c=>[(1,.lst 8 (b.map U.cs)),(2,.sc f),(15,.lst 8 (a.map U.cs)),(16,.int .i64 a.length),(17,.int .i64 i)]) (λ_ _=>[]) () (by((simp[*];done))) (Weak.rfl' _ _) (by omega) (λi x r c hok hx hw=>?_) (λc hok hn=>?_)<;>(try(obtain⟨y,r2,hy,hyn,hok⟩:=dv hok hx)))|fail))
  (all_goals(first|(refine RET.eq hR ?_;((simp_all[hl];done)))|(simp_all[hl];done)))
 ·have e0:decide ((a.length:Int)≠(b.length:Int))=true:=by simp;omega
  rw[mD hl]at hR
  (repeat' (simp only[EVz,seval,↓reduceIte,EV6,EV7,e0]))
  (all_goals((exact RET.eq hR rfl)))
theorem f193:∀(a:U),a.fit->∀b:U,Pure G Tryz.prog 193 [.agg a.cs,.agg b.cs] (.bool (decide (a=b))):=by
 refine U.ind λa ih hfit b=>?_
 have hf:=(U.fit_eq a).1 hfit
 have hkl:=hf.2.2.2.1
 refine Pure.w c193 λR hR=>?_
 unfold s193 r193
 rw[U.dec]at hR
 (repeat' (first|(with_reducible (refine ai (λh=>?_) (λh=>?_))<;>(try simp only[Da,Db,Dc,Dw,De,Df,Dg,Dh]at h))|(with_reducible refine aa (f257 G _ _ (by omega)) ?_)|(with_reducible refine aa (f258 G _ _ _ (by omega) (λx hx y=>(ih x hx (hfit.kid hx) y).v)) ?_)|simp only[EVz,seval,↓reduceIte,EV6,EV7]|fail))
 (all_goals(first|(refine RET.eq hR ?_;(refine congrArg AV.bool (Bool.eq_iff_iff.2 ?_);simp only[EVB]at*;omega))|(refine RET.eq hR ?_;((simp_all[];done)))))
end
end Go.Av
