/-
  LINT, 9: labels, addresses.
-/
import Derived.Test.YtcecmifknojgeaaGreatDoorXL5toXL8
import Derived.Test.YtcecmifknojgeaaGreatDoorShelf
import Derived.Shelf.Strings.FuncGrows
import Derived.Laws.RangeAny
import Derived.Lib.MinMax
namespace Go.Av
open Go Go.RowKit Go.Proofs List
set_option linter.unusedSimpArgs false
set_option linter.unusedVariables false
theorem W_listF {α ι:Type} {G:Glob} {P:Program} {a:SCode} {Q:Exit->Env->Store->Prop} {tQ:Tag Q} {env:Env} {σ:Store} (l:List α) (i0:Nat) (ok:Nat->List α->ι->Prop) (st:Nat->ι->Env) (ss:Nat->ι->Store) (c0:ι)
  (hi:i0<=l.length) (h0:ok i0 (l.drop i0) c0) (hw:Weak G env σ (st i0 c0) (ss i0 c0)) (hl:l.length<9000000000000000000)
  (more:∀i x r c,ok i (x::r) c->Rest l i x r->IntKind.i64.wrap ((i:Int)+1)=((i+1:Nat):Int)->W G P a (NR (LK G l ok st ss i) Q ⟨⟩ ⟨⟩) (st i c) (ss i c) ⟨⟩)
  (fin:∀c,ok l.length [] c->decide ((l.length:Int)<(l.length:Int))=false->W G P a (NR (LK G l ok st ss l.length) Q ⟨⟩ ⟨⟩) (st l.length c) (ss l.length c) ⟨⟩):W G P (.loop a) Q env σ tQ:=by
 refine iy (ι:=Nat×List α×ι) (λj=>l.drop j.1=j.2.1/\j.1<=l.length/\ok j.1 j.2.1 j.2.2) (λj=>l.length-j.1) (λj=>st j.1 j.2.2) (λj=>ss j.1 j.2.2) (i0,l.drop i0,c0) ⟨rfl,hi,h0⟩ hw ?_
 rintro⟨i,r,c⟩ ⟨h1,h2,h3⟩
 simp only at h1 h2 h3 ⊢
 cases r with
 |nil=>
  obtain rfl:=ot h1 h2
  exact fin c h3 (by simp)
 |cons x r=>
  have hx:=ii h1
  exact more i x r c h3 hx (iQ (by have:=hx.lt;omega))
theorem fy (p:Nat->Bool) (hp:∀n,128<=n->p n=true) (s:List UInt8):∀(f pos:Nat),pos<=s.length->s.length-pos<=f->
  Lib.idxFuncFrom p true ⟨⟨s⟩⟩ f pos=idxF (λc:UInt8=>p c.toNat) pos (s.drop pos)
 |0,pos,h1,h2=>by
  have:s.drop pos=[]:=drop_eq_nil_of_le (by omega)
  rw[this];rfl
 |f+1,pos,h1,h2=>by
  have hsz:(⟨⟨s⟩⟩:ByteArray).size=s.length:=rfl
  unfold Lib.idxFuncFrom
  rw[hsz]
  by_cases hlt:pos<s.length
  ·have hps:pos<(⟨⟨s⟩⟩:ByteArray).size:=hlt
   have e:s.drop pos=s[pos]::s.drop (pos+1):=drop_eq_getElem_cons hlt
   have eb:(⟨⟨s⟩⟩:ByteArray)[pos]'hps=s[pos]:=rfl
   rw[if_pos hlt,e,idxF]
   by_cases ha:(s[pos]).toNat<128
   ·have hd:=decode_ascii (⟨⟨s⟩⟩:ByteArray) pos hps (by rw[eb];exact ha)
    rw[hd,eb]
    cases hpc:p (s[pos]).toNat with
    |true=>simp
    |false=>simp;exact fy p hp s f (pos+1) (by omega) (by omega)
   ·have hd:=decode_high (⟨⟨s⟩⟩:ByteArray) pos hps (by rw[eb];omega)
    rw[hp _ hd.1,hp _ (by omega)]
    simp
  ·rw[if_neg hlt,drop_eq_nil_of_le (by omega)]
   rfl
theorem nD {w w':World} (ev:Ev [] w [] w'):Below w.heap.size w w':=⟨ev.os,ev.tape,ev.output,ev.size,λk hk=>(ev.block k hk (by simp[Store.keys])).1⟩
section
variable (G:Glob)
theorem kx {g:Nat} {p:Nat->Bool} {τ:Store} {w:World} (hS:Sat G τ w) (hg:∀n:Nat,Pure G Tryz.prog g [.int .i32 (n:Int)] (.bool (p n))):PredGrows Tryz.prog g #[] p w:=λW x hx hb=>by
 have:=(hg x).2 τ W (#[encR x]++#[]) (by simpa using Sat.below hS hb) (by simp[RepL,Rep])
 refine this.mono ?_
 rintro e w' ⟨v,r,σ',rfl,⟨rfl,rfl⟩,_,ev,hr⟩
 simp only[Rep]at hr
 exact⟨by rw[hr],nD ev⟩
theorem f203 (g:Nat) (p:Nat->Bool) (s:List UInt8) (eg:∀args w,(callFunc g args).run Tryz.prog w= .ok (.enter g args) w) (hp:∀n,128<=n->p n=true) (hg:∀n:Nat,Pure G Tryz.prog g [.int .i32 (n:Int)] (.bool (p n))):
  Pure G Tryz.prog 203 [.str s,.sc (.func (.func g) #[] #[])] (.int .i64 (idxF (λc:UInt8=>p c.toNat) 0 s)):=by
 refine Pure.of_calls Tryz.func203 (by kernel_rfl) (by kernel_rfl) λτ w vs hS hA=>?_
 obtain⟨u,v,rfl,h1,h2⟩:=jD hA
 simp only[Rep]at h1 h2
 subst h1 h2
 refine⟨.int .i64 (idxF (λc:UInt8=>p c.toNat) 0 s),λ_ _=>by simp only[Rep],?_⟩
 have h:=Any.strings_IndexFunc_grows Tryz.laysGw15 g #[] eg p ⟨⟨s⟩⟩ w (kx G hS hg)
 have e:Lib.idxFunc p true ⟨⟨s⟩⟩=idxF (λc:UInt8=>p c.toNat) 0 s:=fy p hp s s.length 0 (by omega) (by omega)
 rw[e]at h
 exact h
theorem f157 (g:Nat) (p:Nat->Bool) (s:List UInt8) (eg:∀args w,(callFunc g args).run Tryz.prog w= .ok (.enter g args) w) (hp:∀n,128<=n->p n=true) (hg:∀n:Nat,Pure G Tryz.prog g [.int .i32 (n:Int)] (.bool (p n))):
  Pure G Tryz.prog 157 [.str s,.sc (.func (.func g) #[] #[])] (.bool (s.any λc:UInt8=>p c.toNat)):=by
 refine Pure.of_calls Tryz.func157 (by kernel_rfl) (by kernel_rfl) λτ w vs hS hA=>?_
 obtain⟨u,v,rfl,h1,h2⟩:=jD hA
 simp only[Rep]at h1 h2
 subst h1 h2
 refine⟨.bool (s.any λc:UInt8=>p c.toNat),λ_ _=>by simp only[Rep],?_⟩
 have h:=Any.strings_ContainsFunc_grows Tryz.laysGw17 g #[] eg p ⟨⟨s⟩⟩ w (kx G hS hg)
 have e:Lib.idxFunc p true ⟨⟨s⟩⟩=idxF (λc:UInt8=>p c.toNat) 0 s:=fy p hp s s.length 0 (by omega) (by omega)
 rw[e,eE]at h
 exact h
def iG (n:Nat):Bool:=decide (n<48)||decide (57<n)
def lf (n:Nat):Bool:=decide (n<65)||decide (90<n)
theorem f204 (n:Nat):Pure G Tryz.prog 204 [.int .i32 (n:Int)] (.bool (iG n)):=by
 refine Pure.w c204 λR hR=>?_
 unfold s204 r204
 (repeat' (first|(with_reducible (refine ag (λh=>?_) (λh=>?_))<;>(try simp only[Da,Db,Dc,Dw,De,Df,Dg,Dh]at h))|simp only[EVz,seval,↓reduceIte,EV6,EV7]|fail))
 (all_goals(((refine RET.eq hR ?_;(refine congrArg AV.bool (Bool.eq_iff_iff.2 ?_);simp only[iG,EVB]at*;omega)))))
theorem f156 (n:Nat):Pure G Tryz.prog 156 [.int .i32 (n:Int)] (.bool (lf n)):=by
 refine Pure.w c156 λR hR=>?_
 unfold s156 r156
 (repeat' (first|(with_reducible (refine ag (λh=>?_) (λh=>?_))<;>(try simp only[Da,Db,Dc,Dw,De,Df,Dg,Dh]at h))|simp only[EVz,seval,↓reduceIte,EV6,EV7]|fail))
 (all_goals(((refine RET.eq hR ?_;(refine congrArg AV.bool (Bool.eq_iff_iff.2 ?_);simp only[lf,EVB]at*;omega)))))
theorem nO:∀(s:List UInt8) (i:Nat),idxF (λc:UInt8=>iG c.toNat) i s=if digN s<s.length then ((i+digN s:Nat):Int)else -1
 |[],i=>rfl
 |c::s,i=>by
  unfold idxF digN
  have hd:iG c.toNat= !fI c:=by
   unfold iG fI
   rw[Bool.eq_iff_iff]
   simp<;>omega
  rw[hd]
  cases h:fI c with
  |true=>
   simp only[Bool.not_true,if_true,Bool.false_eq_true,if_false]
   rw[nO s (i+1)]
   simp only[length_cons]
   by_cases hl:digN s<s.length
   ·rw[if_pos hl,if_pos (by omega)];congr 1;omega
   ·rw[if_neg hl,if_neg (by omega)]
  |false=>simp
theorem any_up (s:List UInt8):(s.any λc:UInt8=>lf c.toNat)= !(s.all isUp):=by
 induction s with
 |nil=>rfl
 |cons c s ih=>
  rw[any_cons,all_cons,ih]
  have hd:lf c.toNat= !isUp c:=by
   unfold lf isUp
   rw[Bool.eq_iff_iff]
   simp<;>omega
  rw[hd]
  cases isUp c<;>simp
theorem f155 (s:List UInt8):Pure G Tryz.prog 155 [.str s] (.tup [.str (s.take (digN s)),.str (s.drop (digN s))]):=by
 refine Pure.w c155 λR hR=>?_
 unfold s155 r155
 have hle:=kh s
 have hc:=f203 G 204 iG s (enters_of Tryz.func204 (by kernel_rfl) rfl) (λn hn=>by simp[iG];omega) (λn=>f204 G n)
 rw[nO s 0,Nat.zero_add]at hc
 by_cases h:digN s<s.length
 ·rw[if_pos h]at hc
  (repeat' (first|(with_reducible (refine ae (λh=>?_) (λh=>?_))<;>(try simp only[Da,Db,Dc,Dw,De,Df,Dg,Dh]at h))|(with_reducible refine AI (by omega) ?_)|(with_reducible refine ab hc ?_)|simp only[EVz,seval,↓reduceIte,EV6,EV7]|(exfalso;omega)|fail))
  (all_goals(((refine RET.eq hR ?_;((simp_all[];done))))))
 ·rw[if_neg h]at hc
  have e:digN s=s.length:=by omega
  rw[e,take_length,drop_length]at hR
  (repeat' (first|(with_reducible refine ab hc ?_)|simp only[EVz,seval,↓reduceIte,EV6,EV7]|fail))
  (all_goals((exact RET.eq hR rfl)))
theorem f84 (s:List UInt8):Pure G Tryz.prog 84 [.str s] (.bool (bC s)):=by
 refine Pure.w c84 λR hR=>?_
 unfold s84 r84
 have hle:=kh s
 have hmin:min (digN s) s.length=digN s:=Nat.min_eq_left hle
 have hcu:=f157 G 156 lf (s.drop (digN s)) (enters_of Tryz.func156 (by kernel_rfl) rfl) (λn hn=>by simp[lf];omega) (λn=>f156 G n)
 rw[any_up]at hcu
 by_cases h1:1<=digN s
 ·have hg:(s.take (digN s)).getD 0 0=s.getD 0 0:=by simp[List.getD,getElem?_take,show 0<digN s by omega]
  (repeat' (first|(with_reducible (refine ag (λh=>?_) (λh=>?_))<;>(try simp only[Da,Db,Dc,Dw,De,Df,Dg,Dh]at h))|(with_reducible refine AI (by omega) ?_)|(with_reducible first|refine ab (f155 G s) ?_|refine ab hcu ?_)|simp only[EVz,seval,↓reduceIte,EV6,EV7,length_take,length_drop,hmin,hg,Bool.not_not]|(exfalso;omega)|fail))
  (all_goals(first|(refine RET.eq hR ?_;(refine congrArg AV.bool (Bool.eq_iff_iff.2 ?_);simp only[bC,EVB]at*;omega))|(refine RET.eq hR ?_;((simp_all[bC];done)))))
 ·have hf:bC s=false:=by simp[bC,show ¬((1:Int)<=digN s)by omega]
  rw[hf]at hR
  (repeat' (first|(with_reducible (refine ag (λh=>?_) (λh=>?_))<;>(try simp only[Da,Db,Dc,Dw,De,Df,Dg,Dh]at h))|(with_reducible refine AI (by omega) ?_)|(with_reducible first|refine ab (f155 G s) ?_|refine ab hcu ?_)|simp only[EVz,seval,↓reduceIte,EV6,EV7,length_take,length_drop,hmin]|(exfalso;omega)|fail))
  (all_goals((exact RET.eq hR rfl)))
theorem f146 (s:List UInt8) (hs:s.length<1000000000000000000):Pure G Tryz.prog 146 [.str s] (.bool (bC s)):=by
 refine Pure.w c146 λR hR=>?_
 unfold s146 r146
 have hle:=kh s
 have hw2:IntKind.i64.wrap ((s.length:Int)-(digN s:Int))=((s.length-digN s:Nat):Int):=by rw[au (by omega) (by omega)];omega
 (repeat' (first|(with_reducible (first|refine ae (λh=>?_) (λh=>?_)|refine ag (λh=>?_) (λh=>?_))<;>(try simp only[Da,Db,Dc,Dw,De,Df,Dg,Dh]at h))|(with_reducible refine AI (by omega) ?_)|(with_reducible refine ab (f199 G s hs) ?_)|simp only[EVz,seval,↓reduceIte,EV6,EV7,hw2,hx.yes,hx.le0,hx.lt',hx.get,hx.row,hw]|simp only[EVz,seval,↓reduceIte,EV6,EV7,hw2,hn]|simp only[EVz,seval,↓reduceIte,EV6,EV7,hw2]|(refine af hx () ?_ (Weak.rfl' _ _))|(refine W_listF s (digN s) (λi r (c:Unit)=>(s.drop (digN s)).all isUp=r.all isUp) (λi c=>[(0,.str s),(4,.int .i64 i)]) (λ_ _=>[]) () hle rfl (Weak.rfl' _ _) (by omega) (λi x r c hok hx hw=>?_) (λc hok hn=>?_))|fail))
 (all_goals(first|(refine RET.eq hR ?_;(refine congrArg AV.bool (Bool.eq_iff_iff.2 ?_);simp only[bC,isUp,EVB]at*;omega))|(refine RET.eq hR ?_;first|(simp_all[bC,isUp];done)|(simp_all[bC,isUp];omega))|(simp_all[bC,isUp];done)))
end
section
variable (G:Glob)
theorem f140 (p:List Stp) (hl:p.length<1000000) (ht:∀x∈p,x.label.length<1000000000000000000):Pure G Tryz.prog 140 [.lst 2 (p.map Stp.cs)] (.bool (cC p)):=by
 refine Pure.w c140 λR hR=>?_
 unfold s140 r140
 (repeat' (first|(with_reducible (first|refine ae (λh=>?_) (λh=>?_)|refine ag (λh=>?_) (λh=>?_))<;>(try simp only[Da,Db,Dc,Dw,De,Df,Dg,Dh]at h))|(with_reducible first|refine ab (f193 G _ _) ?_|refine ab (f146 G _ (ht _ hx.mem)) ?_)|simp only[EVz,seval,↓reduceIte,EV6,EV7,hx.yes,hx.le0,hx.lt',hx.get,hx.row,hw]|simp only[EVz,seval,↓reduceIte,EV6,EV7,hn]|simp only[EVz,seval,↓reduceIte,EV6,EV7]|(refine af hx () ?_ (Weak.rfl' _ _))|(refine Zq (p) (λi r (c:Unit)=>co 0 p=co i r) (λi c=>[(0,.lst 2 (p.map Stp.cs)),(3,.int .i64 i)]) (λ_ _=>[]) () (by rfl) (Weak.rfl' _ _) (by omega) (λi x r c hok hx hw=>?_) (λc hok hn=>?_))|fail))
 (all_goals(first|(refine RET.eq hR ?_;(refine congrArg AV.bool (Bool.eq_iff_iff.2 ?_);simp only[cC,co,fd,EVB]at*;omega))|(refine RET.eq hR ?_;first|(simp only[cC,co,fd,hok,h,EVC,decide_true,decide_false];done)|(simp_all[cC,co,fd];done)|(simp_all[cC,co,fd];omega))|(simp_all[cC,co,fd];done)))
theorem f67 (p:List Stp) (hl:p.length<1000000):Pure G Tryz.prog 67 [.lst 2 (p.map Stp.cs)] (.bool (cC p)):=by
 refine Pure.w c67 λR hR=>?_
 unfold s67 r67
 (repeat' (first|(with_reducible (first|refine ae (λh=>?_) (λh=>?_)|refine ag (λh=>?_) (λh=>?_))<;>(try simp only[Da,Db,Dc,Dw,De,Df,Dg,Dh]at h))|(with_reducible first|refine ab (f131 G _ _) ?_|refine ab (f84 G _) ?_)|simp only[EVz,seval,↓reduceIte,EV6,EV7,hx.yes,hx.le0,hx.lt',hx.get,hx.row,hw]|simp only[EVz,seval,↓reduceIte,EV6,EV7,hn]|simp only[EVz,seval,↓reduceIte,EV6,EV7]|(with_reducible intro blk hblk;(try(have hnx:=hblk;simp only[EVK]at hnx;(have hne:=hnx))))|(refine af hx () ?_ (Weak.sub (SubN.nil _)))|(refine Zq (p) (λi r (c:Unit)=>co 0 p=co i r) (λi c=>[(0,.lst 2 (p.map Stp.cs)),(5,.lst 2 (p.map Stp.cs)),(6,.int .i64 p.length),(7,.int .i64 i)]) (λ_ _=>[]) () (by rfl) (Weak.rfl' _ _) (by omega) (λi x r c hok hx hw=>?_) (λc hok hn=>?_))|fail))
 (all_goals(first|(refine RET.eq hR ?_;first|(simp only[cC,co,fd,hok,EVC,decide_true,decide_false];done)|(simp_all[cC,co,fd];done)|(simp_all[cC,co,fd];omega))|(simp_all[cC,co,fd];done)|(simp_all[cC,co,fd];omega)))
end
section
def shortW (l:List Wd):Bool:=(l.all λw=>decide ((w.text.length:Int)<=100))&&decide ((l.length:Int)<=300)
mutual
def U.shorts:U->Bool
 |⟨_,_,l,h,w,ks⟩=>decide ((l.length:Int)<=30)&&(shortW h&&(shortW w&&U.shortss ks))
def U.shortss:List U->Bool
 |[]=>true
 |u::us=>U.shorts u&&U.shortss us
end
section
variable {G:Glob} {P:Program}
theorem RAW_max {a b:Int} {i j:Nat} {t t':TypeId} {env:Env} {σ:Store} {K:AV->Store->Prop} (hi:env.get i= .int .i64 a) (hj:env.get j= .int .i64 b) (hk:K (.int .i64 (max a b)) σ):
  RAW G P (.call (.mk (.builtin .max) #[.tmp i,.tmp j] #[t,t'])) env σ K ⟨⟩:=by
 refine dw _ (λρ w ac op ho hS hE=>?_) hk
 have h1:=hE i
 have h2:=hE j
 rw[hi]at h1
 rw[hj]at h2
 simp only[Rep]at h1 h2
 refine⟨.int .i64 (max a b),?_,by simp only[Rep]⟩
 have e1:ac.eval (.tmp i)= .int .i64 a:=h1
 have e2:ac.eval (.tmp j)= .int .i64 b:=h2
 simp[execOp,ho,resolve,invoke,builtin,e1,e2,Lib.run_max_ints]
end
mutual
def U.fit:U->Prop
 |⟨_,_,l,h,w,ks⟩=>l.length<1000000000000000000/\(h.length<1000000000000000000/\∀x∈h,x.text.length<1000000000000000000)/\(w.length<1000000000000000000/\∀x∈w,x.text.length<1000000000000000000)/\ks.length<1000000000000000000/\U.fits ks
def U.fits:List U->Prop
 |[]=>True
 |u::us=>U.fit u/\U.fits us
end
theorem U.fits_iff:∀{us:List U},U.fits us↔∀k∈us,k.fit
 |[]=>by simp[U.fits]
 |u::us=>by simp[U.fits,U.fits_iff (us:=us)]
theorem U.fit_eq (u:U):u.fit↔u.label.length<1000000000000000000/\(u.head.length<1000000000000000000/\∀x∈u.head,x.text.length<1000000000000000000)/\(u.words.length<1000000000000000000/\∀x∈u.words,x.text.length<1000000000000000000)/\u.kids.length<1000000000000000000/\∀k∈u.kids,k.fit:=by
 cases u
 rw[U.fit,U.fits_iff]
section
variable (G:Glob)
def U.Tame (u:U):Prop:=u.fit/\u.flat.length<1000000
theorem U.flats_mem {us:List U} {k:U} (h:k∈us):k.flat.length<=(U.flats us).length:=by
 induction us with
 |nil=>cases h
 |cons a us ih=>
  rw[U.flats,length_append]
  rcases mem_cons.1 h with rfl|h
  ·omega
  ·have:=ih h;omega
theorem U.flat_pos (u:U):1<=u.flat.length:=by rw[U.flat_eq];simp
theorem U.flats_len (us:List U):us.length<=(U.flats us).length:=by
 induction us with
 |nil=>simp
 |cons a us ih=>rw[U.flats,length_append,length_cons];have:=a.flat_pos;omega
theorem U.Tame.kid {u k:U} (h:u.Tame) (hk:k∈u.kids):k.Tame:=by
 refine⟨((U.fit_eq u).1 h.1).2.2.2.2 k hk,?_⟩
 have:=U.flats_mem hk
 have h2:=h.2
 rw[U.flat_eq,length_cons]at h2
 omega
theorem U.Tame.kids {u:U} (h:u.Tame):u.kids.length<1000000:=by
 have:=U.flats_len u.kids
 have h2:=h.2
 rw[U.flat_eq,length_cons]at h2
 omega
def U.cnt (u:U):Int:=u.flat.length
def U.cnts (us:List U):Int:=(U.flats us).length
theorem U.cnt_eq (u:U):u.cnt=1+U.cnts u.kids:=by unfold U.cnt U.cnts;rw[U.flat_eq,length_cons];omega
theorem U.cnts_cons (u:U) (us:List U):U.cnts (u::us)=u.cnt+U.cnts us:=by unfold U.cnt U.cnts;rw[U.flats,length_append];omega
theorem U.cnts_nil:U.cnts []=0:=rfl
theorem U.cnts_ge (us:List U):0<=U.cnts us:=by unfold U.cnts;omega
theorem U.cnt_ge (u:U):1<=u.cnt:=by have:=u.flat_pos;unfold U.cnt;omega
theorem f226:∀(u:U),u.Tame->Pure G Tryz.prog 226 [.agg u.cs] (.int .i64 u.cnt):=by
 refine U.ind λu ih ht=>?_
 have hkl:=ht.kids
 have hc:=ht.2
 have hce:(u.flat.length:Int)=u.cnt:=rfl
 refine Pure.w c226 λR hR=>?_
 unfold s226 r226
 rw[U.cnt_eq]at hR hce
 (repeat' (first|(with_reducible refine ab (ih x hx.mem (ht.kid hx.mem)) ?_)|simp only[EVz,seval,↓reduceIte,EV6,EV7,hx.yes,hx.le0,hx.lt',hx.get,hx.row,hw]|simp only[EVz,seval,↓reduceIte,EV6,EV7,hn]|simp only[EVz,seval,↓reduceIte,EV6,EV7]|(refine Zq (ι:=Int) (u.kids) (λi r c=>1+U.cnts u.kids=c+U.cnts r/\1<=c) (λi c=>[(1,.ref u.cs),(3,.int .i64 c),(4,.int .i64 i)]) (λ_ _=>[]) (1) (by((simp;done))) (Weak.rfl' _ _) (by omega) (λi x r c hok hx hw=>?_) (λc hok hn=>?_))|(refine af hx _ ?_ (Weak.rfl' _ _))|fail))
 ·rw[U.cnts_cons]at hok
  have:=U.cnt_ge x
  have:=U.cnts_ge r
  rw[au (by omega) (by omega)]
  omega
 ·exact RET.eq hR (by rw[hok.1,U.cnts_nil];simp)
theorem f149:∀(u:U),u.Tame->Pure G Tryz.prog 149 [.agg u.cs] (.int .i64 u.cnt):=by
 refine U.ind λu ih ht=>?_
 have hkl:=ht.kids
 have hc:=ht.2
 have hce:(u.flat.length:Int)=u.cnt:=rfl
 refine Pure.w c149 λR hR=>?_
 unfold s149 r149
 rw[U.cnt_eq]at hR hce
 (repeat' (first|(with_reducible refine ab (ih x hx.mem (ht.kid hx.mem)) ?_)|simp only[EVz,seval,↓reduceIte,EV6,EV7,hx.yes,hx.le0,hx.lt',hx.get,hx.row,hw]|simp only[EVz,seval,↓reduceIte,EV6,EV7,hn]|simp only[EVz,seval,↓reduceIte,EV6,EV7]|(refine Zq (ι:=Int) (u.kids) (λi r c=>1+U.cnts u.kids=c+U.cnts r/\1<=c) (λi c=>[(1,.ref u.cs),(3,.int .i64 c),(4,.int .i64 i)]) (λ_ _=>[]) (1) (by((simp;done))) (Weak.rfl' _ _) (by omega) (λi x r c hok hx hw=>?_) (λc hok hn=>?_))|(refine af hx _ ?_ (Weak.rfl' _ _))|fail))
 ·rw[U.cnts_cons]at hok
  have:=U.cnt_ge x
  have:=U.cnts_ge r
  rw[au (by omega) (by omega)]
  omega
 ·exact RET.eq hR (by rw[hok.1,U.cnts_nil];simp)
def U.dep (u:U):Int:=u.deep
def U.deps (us:List U):Int:=U.deeps us
theorem U.dep_eq (u:U):u.dep=U.deps u.kids:=by unfold U.dep U.deps;rw[U.deep_eq]
theorem U.deps_cons (u:U) (us:List U):U.deps (u::us)=max (1+u.dep) (U.deps us):=by unfold U.dep U.deps;rw[U.deeps];omega
theorem U.deps_nil:U.deps []=0:=rfl
theorem U.dep_ge (u:U):0<=u.dep:=by unfold U.dep;omega
theorem U.dep_cnt:∀u:U,u.dep<u.cnt:=by
 refine U.ind λu ih=>?_
 rw[U.dep_eq,U.cnt_eq]
 have key:∀us:List U,(∀k∈us,k.dep<k.cnt)->U.deps us<=U.cnts us:=by
  intro us
  induction us with
  |nil=>intro _;simp[U.deps_nil,U.cnts_nil]
  |cons a us iha=>
   intro h
   have h1:=h a (by simp)
   have h2:=iha λk hk=>h k (by simp[hk])
   rw[U.deps_cons,U.cnts_cons]
   have:=U.cnts_ge us
   have:=U.cnt_ge a
   omega
 have:=key u.kids ih
 omega
theorem f225:∀(u:U),u.Tame->Pure G Tryz.prog 225 [.agg u.cs] (.int .i64 u.dep):=by
 refine U.ind λu ih ht=>?_
 have hkl:=ht.kids
 have hd0:0<=U.deps u.kids:=by rw[←U.dep_eq];exact u.dep_ge
 refine Pure.w c225 λR hR=>?_
 unfold s225 r225
 rw[U.dep_eq]at hR
 (repeat' (first|(with_reducible refine ab (ih x hx.mem (ht.kid hx.mem)) ?_)|simp only[EVz,seval,↓reduceIte,EV6,EV7,hx.yes,hx.le0,hx.lt',hx.get,hx.row,hw,hwx]|simp only[EVz,seval,↓reduceIte,EV6,EV7,hn]|simp only[EVz,seval,↓reduceIte,EV6,EV7]|(refine Zq (ι:=Int) (u.kids) (λi r c=>U.deps u.kids=max c (U.deps r)/\0<=c) (λi c=>[(1,.ref u.cs),(3,.int .i64 c),(4,.int .i64 i)]) (λ_ _=>[]) (0) (by((simp;omega))) (Weak.rfl' _ _) (by omega) (λi x r c hok hx hw=>?_) (λc hok hn=>?_)<;>(try(have hwx:IntKind.i64.wrap (1+x.dep)=1+x.dep:=au (by have:=x.dep_ge;omega) (by have h1:=x.dep_cnt;have h2:=(ht.kid hx.mem).2;have h3:(x.flat.length:Int)=x.cnt:=rfl;omega))))|(refine af hx _ ?_ (Weak.rfl' _ _))|(refine RAW_max rfl rfl ?_)|fail))
 ·rw[U.deps_cons]at hok;omega
 ·exact RET.eq hR (by rw[hok.1,U.deps_nil,Int.max_eq_left hok.2])
theorem f54:∀(u:U),u.Tame->Pure G Tryz.prog 54 [.agg u.cs] (.int .i64 u.dep):=by
 refine U.ind λu ih ht=>?_
 have hkl:=ht.kids
 have hd0:0<=U.deps u.kids:=by rw[←U.dep_eq];exact u.dep_ge
 refine Pure.w c54 λR hR=>?_
 unfold s54 r54
 rw[U.dep_eq]at hR
 (repeat' (first|(with_reducible refine ab (ih x hx.mem (ht.kid hx.mem)) ?_)|simp only[EVz,seval,↓reduceIte,EV6,EV7,hx.yes,hx.le0,hx.lt',hx.get,hx.row,hw,hwx]|simp only[EVz,seval,↓reduceIte,EV6,EV7,hn]|simp only[EVz,seval,↓reduceIte,EV6,EV7]|(with_reducible intro blk hblk;(try(have hnx:=hblk;simp only[EVK]at hnx;(have hne:=hnx))))|(refine Zq (ι:=Int) (u.kids) (λi r c=>U.deps u.kids=max c (U.deps r)/\0<=c) (λi c=>[(3,.int .i64 c),(7,.lst 8 (u.kids.map U.cs)),(8,.int .i64 u.kids.length),(9,.int .i64 i)]) (λ_ _=>[]) (0) (by((simp;omega))) (Weak.rfl' _ _) (by omega) (λi x r c hok hx hw=>?_) (λc hok hn=>?_)<;>(try(have hwx:IntKind.i64.wrap (1+x.dep)=1+x.dep:=au (by have:=x.dep_ge;omega) (by have h1:=x.dep_cnt;have h2:=(ht.kid hx.mem).2;have h3:(x.flat.length:Int)=x.cnt:=rfl;omega))))|(refine af hx _ ?_ (Weak.sub (SubN.nil _)))|(refine RAW_max rfl rfl ?_)|fail))
 ·rw[U.deps_cons]at hok;omega
 ·exact RET.eq hR (by rw[hok.1,U.deps_nil,Int.max_eq_left hok.2])
end
end
theorem mW (a b:Idd):decide (a=b)=(decide (a.act=b.act)&&(decide (a.item=b.item)&&decide (a.n=b.n))):=by
 cases a;cases b
 rw[Bool.eq_iff_iff];simp
theorem U.dec (a b:U):decide (a=b)=((decide (a.id.act=b.id.act)&&(decide (a.id.item=b.id.item)&&decide (a.id.n=b.id.n)))&&(decide (a.kind=b.kind)&&(decide (a.label=b.label)&&(decide (a.head=b.head)&&(decide (a.words=b.words)&&decide (a.kids=b.kids)))))):=by
 rw[←mW]
 cases a;cases b
 rw[Bool.eq_iff_iff];simp
theorem mV {α:Type} [DecidableEq α] {a b:List α} (h:a.length≠b.length):decide (a=b)=false:=by
 simp;rintro rfl;exact h rfl
theorem U.fit.kid {u k:U} (h:u.fit) (hk:k∈u.kids):k.fit:=((U.fit_eq u).1 h).2.2.2.2 k hk
section
variable (G:Glob)
theorem f192:∀(a:U),a.fit->∀b:U,Pure G Tryz.prog 192 [.agg a.cs,.agg b.cs] (.bool (decide (a=b))):=by
 refine U.ind λa ih hfit b=>?_
 have hf:=(U.fit_eq a).1 hfit
 have hkl:=hf.2.2.2.1
 refine Pure.w c192 λR hR=>?_
 unfold s192 r192
 rw[U.dec]at hR
 by_cases hl:a.kids.length=b.kids.length
 ·have e0:decide ((a.kids.length:Int)≠(b.kids.length:Int))=false:=by simp[hl]
  (repeat' (first|(with_reducible (first|refine ae (λh=>?_) (λh=>?_)|refine ag (λh=>?_) (λh=>?_))<;>(try simp only[Da,Db,Dc,Dw,De,Df,Dg,Dh]at h))|(with_reducible refine AI (by omega) ?_)|(with_reducible first|refine ab (f221 G _ _ (by omega)) ?_|refine ab (ih x hx.mem (hfit.kid hx.mem) y) ?_)|simp only[EVz,seval,↓reduceIte,EV6,EV7,e0,hx.yes,hx.le0,hx.lt',hx.get,hx.row,hw,hy.row,hy.lt']|simp only[EVz,seval,↓reduceIte,EV6,EV7,e0,hn]|simp only[EVz,seval,↓reduceIte,EV6,EV7,e0]|(with_reducible refine ak ?_ ?_)|(with_reducible refine am ?_)|(refine af hx () ?_ (Weak.rfl' _ _))|(refine Zq (a.kids) (λi r (c:Unit)=>a.kids.length=b.kids.length/\decide (a.kids=b.kids)=decide (r=b.kids.drop i)) (λi c=>[(2,.ref a.cs),(3,.ref b.cs),(5,.int .i64 i)]) (λ_ _=>[]) () (by((simp[*];done))) (Weak.rfl' _ _) (by omega) (λi x r c hok hx hw=>?_) (λc hok hn=>?_)<;>(try(obtain⟨y,r2,hy,hyn,hok⟩:=cr hok hx)))|fail))
  (all_goals(first|(refine RET.eq hR ?_;(refine congrArg AV.bool (Bool.eq_iff_iff.2 ?_);simp only[hl,EVB]at*;omega))|(refine RET.eq hR ?_;((simp_all[hl];done)))|(simp_all[hl];done)))
 ·have e0:decide ((a.kids.length:Int)≠(b.kids.length:Int))=true:=by simp;omega
  rw[mV hl]at hR
  (repeat' (first|(with_reducible (refine ag (λh=>?_) (λh=>?_))<;>(try simp only[Da,Db,Dc,Dw,De,Df,Dg,Dh]at h))|(with_reducible refine ab (f221 G _ _ (by omega)) ?_)|simp only[EVz,seval,↓reduceIte,EV6,EV7,e0]|fail))
  (all_goals(first|(refine RET.eq hR ?_;(refine congrArg AV.bool (Bool.eq_iff_iff.2 ?_);simp only[EVB]at*;omega))|(refine RET.eq hR ?_;((simp_all[];done)))))
theorem f47 (f:Value) (a b:List U) (ha:a.length<9000000000000000000) (hf:∀x∈a,∀y,fL G Tryz.prog f [.agg x.cs,.agg y.cs] (.bool (decide (x=y)))):
  Pure G Tryz.prog 47 [.lst 8 (a.map U.cs),.lst 8 (b.map U.cs),.sc f] (.bool (decide (a=b))):=by
 refine Pure.w c47 λR hR=>?_
 unfold s47 r47
 by_cases hl:a.length=b.length
 ·have e0:decide ((a.length:Int)≠(b.length:Int))=false:=by simp[hl]
  (repeat' (first|(with_reducible (refine ae (λh=>?_) (λh=>?_))<;>(try simp only[Da,Db,Dc,Dw,De,Df,Dg,Dh]at h))|(with_reducible refine AI (by omega) ?_)|simp only[EVz,seval,↓reduceIte,EV6,EV7,e0,hx.yes,hx.le0,hx.lt',hx.get,hx.row,hw,hy.row,hy.lt',hne]|simp only[EVz,seval,↓reduceIte,EV6,EV7,e0,hx.yes,hx.le0,hx.lt',hx.get,hx.row,hw,hy.row,hy.lt']|simp only[EVz,seval,↓reduceIte,EV6,EV7,e0,hn]|simp only[EVz,seval,↓reduceIte,EV6,EV7,e0]|(with_reducible intro blk hblk;(try(have hnx:=hblk;simp only[EVK]at hnx;first|(have hne:=AI hnx hne)|(have hne:=hnx))))|(refine af hx () ?_ (Weak.sub (SubN.nil _)))|(refine aK (hf _ hx.mem y) ?_)|(refine Zq (a) (λi r (c:Unit)=>a.length=b.length/\decide (a=b)=decide (r=b.drop i)) (λi c=>[(1,.lst 8 (b.map U.cs)),(2,.sc f),(15,.lst 8 (a.map U.cs)),(16,.int .i64 a.length),(17,.int .i64 i)]) (λ_ _=>[]) () (by((simp[*];done))) (Weak.rfl' _ _) (by omega) (λi x r c hok hx hw=>?_) (λc hok hn=>?_)<;>(try(obtain⟨y,r2,hy,hyn,hok⟩:=cr hok hx)))|fail))
  (all_goals(first|(refine RET.eq hR ?_;((simp_all[hl];done)))|(simp_all[hl];done)))
 ·have e0:decide ((a.length:Int)≠(b.length:Int))=true:=by simp;omega
  rw[mV hl]at hR
  (repeat' (simp only[EVz,seval,↓reduceIte,EV6,EV7,e0]))
  (all_goals((exact RET.eq hR rfl)))
theorem f29:∀(a:U),a.fit->∀b:U,Pure G Tryz.prog 29 [.agg a.cs,.agg b.cs] (.bool (decide (a=b))):=by
 refine U.ind λa ih hfit b=>?_
 have hf:=(U.fit_eq a).1 hfit
 have hkl:=hf.2.2.2.1
 refine Pure.w c29 λR hR=>?_
 unfold s29 r29
 rw[U.dec]at hR
 (repeat' (first|(with_reducible (refine ag (λh=>?_) (λh=>?_))<;>(try simp only[Da,Db,Dc,Dw,De,Df,Dg,Dh]at h))|(with_reducible refine ab (f46 G _ _ (by omega)) ?_)|(with_reducible refine ab (f47 G _ _ _ (by omega) (λx hx y=>(ih x hx (hfit.kid hx) y).v)) ?_)|simp only[EVz,seval,↓reduceIte,EV6,EV7]|fail))
 (all_goals(first|(refine RET.eq hR ?_;(refine congrArg AV.bool (Bool.eq_iff_iff.2 ?_);simp only[EVB]at*;omega))|(refine RET.eq hR ?_;((simp_all[];done)))))
end
theorem cH {e:TypeId} {sz bytes m m':Nat} {σ:Store} {g:Option Nat} {rows ys:List (List AV)} {K:AV->Store->Prop} (hτ:∀d,g=some d->σ.get d=some (.tok e m)) (hm:m=rows.length*sz) (hm':m'=(rows++ys).length*sz)
  (hn:(rows.length+ys.length)*bytes<=140737488355328) (hk:∀g',K (.own g' e sz (rows++ys)) (tokS g' e m')):appX e sz bytes σ g rows ys K:=by
 subst hm hm'
 exact fR [] hτ hn (SubN.nil _) (λg' _=>by simpa using hk g')
/-! ### an inner loop over the first elements of a list -/
structure RestT {α:Type} (l:List α) (i k:Nat) (y:α):Prop where
 lt:k<i
 lt':(k:Int)<(l.length:Int)
 yes:decide ((k:Int)<(i:Int))=true
 le0:(0:Int)<=(k:Int)
 row:∀{β:Type} (f:α->β) (d:β),(l.map f).getD k d=f y
 mem:y∈l.take i
 take:l.take (k+1)=l.take k++[y]
def LT {ι:Type} (G:Glob) (i:Nat) (ok:Nat->ι->Prop) (st:Nat->ι->Env) (ss:Nat->ι->Store) (k:Nat):Env->Store->Prop:=
 λenv σ=>∃j:Nat×ι,(j.1<=i/\ok j.1 j.2)/\i-j.1<i-k/\Weak G env σ (st j.1 j.2) (ss j.1 j.2)
theorem mQ {α ι:Type} {G:Glob} {l:List α} {i k:Nat} {y:α} {ok:Nat->ι->Prop} {st:Nat->ι->Env} {ss:Nat->ι->Store} {env:Env} {σ:Store} (hy:RestT l i k y) (c:ι) (h:ok (k+1) c) (hw:Weak G env σ (st (k+1) c) (ss (k+1) c)):
  LT G i ok st ss k env σ:=⟨(k+1,c),⟨hy.lt,h⟩,by have:=hy.lt;show i-(k+1)<i-k;omega,hw⟩
theorem W_take {α ι:Type} {G:Glob} {P:Program} {a:SCode} {Q:Exit->Env->Store->Prop} {tQ:Tag Q} {env:Env} {σ:Store} (l:List α) (i:Nat) (hi:i<=l.length) (ok:Nat->ι->Prop) (st:Nat->ι->Env) (ss:Nat->ι->Store) (c0:ι)
  (h0:ok 0 c0) (hw:Weak G env σ (st 0 c0) (ss 0 c0)) (hl:i<9000000000000000000)
  (more:∀k y c,ok k c->RestT l i k y->IntKind.i64.wrap ((k:Int)+1)=((k+1:Nat):Int)->W G P a (NR (LT G i ok st ss k) Q ⟨⟩ ⟨⟩) (st k c) (ss k c) ⟨⟩)
  (fin:∀c,ok i c->decide ((i:Int)<(i:Int))=false->W G P a (NR (LT G i ok st ss i) Q ⟨⟩ ⟨⟩) (st i c) (ss i c) ⟨⟩):W G P (.loop a) Q env σ tQ:=by
 refine iy (ι:=Nat×ι) (λj=>j.1<=i/\ok j.1 j.2) (λj=>i-j.1) (λj=>st j.1 j.2) (λj=>ss j.1 j.2) (0,c0) ⟨Nat.zero_le _,h0⟩ hw ?_
 rintro⟨k,c⟩ ⟨h1,h2⟩
 simp only at h1 h2 ⊢
 rcases Nat.lt_or_ge k i with hk|hk
 ·have hkl:k<l.length:=by omega
  refine more k l[k] c h2 ⟨hk,by omega,by simpa using hk,by omega,λf d=>by simp[hkl],?_,take_succ_eq_append_getElem hkl⟩ (iQ (by omega))
  exact mem_iff_getElem.2 ⟨k,by simp;omega,by simp⟩
 ·obtain rfl:k=i:=by omega
  exact fin c h2 (by simp)
theorem pV {α:Type} {l:List α} {i:Nat} {x:α} {r:List α} (hx:Rest l i x r) (hnd:l.Nodup):¬x∈l.take i:=by
 intro hm
 have h1:(l.take (i+1)).Nodup:=hnd.sublist (take_sublist (i+1) l)
 rw[hx.take]at h1
 exact(nodup_append.1 h1).2.2 x hm x (by simp) rfl
def U.ids (u:U):List Idd:=u.flat.map U.id
def U.idss (us:List U):List Idd:=(U.flats us).map U.id
theorem U.ids_eq (u:U):u.ids=u.id::U.idss u.kids:=by unfold U.ids U.idss;rw[U.flat_eq];rfl
theorem U.idss_cons (u:U) (us:List U):U.idss (u::us)=u.ids++U.idss us:=by unfold U.ids U.idss;rw[U.flats,map_append]
theorem U.ids_len (u:U):u.ids.length=u.flat.length:=by simp[U.ids]
def fY (u:U):Bool:=
 (decide (0<=u.kind)&&(decide (u.kind<=7)&&(decide ((u.kids.length:Int)<=64)&&(aS u.head&&aS u.words))))&&
 (if u.kind=0 then decide (u.label=[])&&(decide ((u.head.length:Int)=0)&&decide ((u.words.length:Int)=0))else bC u.label)
section
variable (G:Glob)
theorem f257:∀(u:U),u.Tame->Pure G Tryz.prog 257 [.agg u.cs] (.lst 3 (u.ids.map Idd.cs)):=by
 refine U.ind λu ih ht=>?_
 have hkl:=ht.kids
 have hc:=ht.2
 refine Pure.w c257 λR hR=>?_
 unfold s257 r257
 rw[U.ids_eq]at hR
 have hlen:u.flat.length=1+(U.idss u.kids).length:=by rw[←U.ids_len,U.ids_eq,length_cons];omega
 (repeat' (first|(with_reducible refine ab (ih x hx.mem (ht.kid hx.mem)) ?_)|simp only[EVz,seval,↓reduceIte,EV6,EV7,hx.yes,hx.le0,hx.lt',hx.get,hx.row,hw]|simp only[EVz,seval,↓reduceIte,EV6,EV7,hn]|simp only[EVz,seval,↓reduceIte,EV6,EV7]|(with_reducible intro blk hblk;(try(have hnx:=hblk;simp only[EVK]at hnx;(have hne:=hnx))))|(refine⟨[u.id.cs],rfl,(by simp[Idd.cs]),(by simp[Idd.cs]),?_⟩)|(refine Zq (ι:=Option Nat×List Idd) u.kids (λi r c=>u.id::U.idss u.kids=c.2++U.idss r) (λi c=>[(1,.ref u.cs),(3,.own c.1 23 3 (c.2.map Idd.cs)),(4,.int .i64 i)]) (λi c=>tokS c.1 23 (c.2.length*3)) (some blk,[u.id]) rfl (Weak.rfl' _ _) (by omega) (λi x r c hok hx hw=>?_) (λc hok hn=>?_))|fail))
 ·have h1:=congrArg List.length hok
  simp only[length_cons,length_append,U.idss_cons]at h1
  refine cH (m':=(c.2++x.ids).length*3) bI (by simp) (by simp) (by simp;omega) (λgn=>?_)
  exact af hx (gn,c.2++x.ids) (by rw[hok,U.idss_cons,append_assoc]) (by simp only[map_append];exact Weak.rfl' _ _)
 ·exact hR _ _ (Or.inl (Or.inr ⟨rfl,by rw[hok];simp[U.idss,U.flats]⟩))
theorem f255 (u:U) (hfit:u.fit) (hl:u.label.length<1000000000000000000) (hh:u.head.length<1000000) (hw:u.words.length<1000000):Pure G Tryz.prog 255 [.agg u.cs] (.bool (fY u)):=by
 refine Pure.w c255 λR hR=>?_
 unfold s255 r255
 (repeat' (first|(with_reducible (first|refine ae (λh=>?_) (λh=>?_)|refine ag (λh=>?_) (λh=>?_))<;>(try simp only[Da,Db,Dc,Dw,De,Df,Dg,Dh]at h))|(with_reducible first|refine ab (f271 G _ hh) ?_|refine ab (f271 G _ hw) ?_|refine ab (f146 G _ hl) ?_)|simp only[EVz,seval,↓reduceIte,EV6,EV7]|fail))
 (all_goals(first|(refine RET.eq hR ?_;(refine congrArg AV.bool (Bool.eq_iff_iff.2 ?_);simp only[fY,EVB]at*;omega))|(refine RET.eq hR ?_;((simp_all[fY];done)))))
def zId:Idd:=⟨0,0,0⟩
def il (u:U):Bool:=(u.ids.all λx=>decide (x=zId))||(decide (decide (u.id=zId)=decide (u.kind=0))&&decide u.ids.Nodup)
theorem ai (x y:Idd):(decide (x.act=y.act)&&(decide (x.item=y.item)&&(decide (x.n=y.n)&&true)))=decide (x=y):=by rw[mW,Bool.and_true]
theorem cL (x:Idd):(decide (x.act=0)&&(decide (x.item=0)&&(decide (x.n=0)&&true)))=decide (x=zId):=ai x zId
theorem f227 (u:U) (ht:u.Tame):Pure G Tryz.prog 227 [.agg u.cs] (.bool (il u)):=by
 refine Pure.w c227 λR hR=>?_
 unfold s227 r227
 have hl:u.ids.length<1000000:=by rw[U.ids_len];exact ht.2
 have h0:u.ids=u.id::U.idss u.kids:=U.ids_eq u
 obtain⟨l,hll⟩:∃l,u.ids=l:=⟨_,rfl⟩
 have hA:=f257 G u ht
 unfold il at hR
 rw[hll]at hR hA hl
 have hl0:0<l.length:=by rw[←hll,h0];simp
 have hg0:(l.map Idd.cs).getD 0 []=[.int .i64 u.id.act,.int .i64 u.id.item,.int .i64 u.id.n]:=by rw[←hll,h0];rfl
 (repeat' (first|(with_reducible (first|refine ae (λh=>?_) (λh=>?_)|refine ag (λh=>?_) (λh=>?_))<;>(try simp only[Da,Db,Dc,Dw,De,Df,Dg,Dh]at h))|(with_reducible refine AI (by omega) ?_)|(with_reducible refine ab hA ?_)|simp only[EVz,seval,↓reduceIte,EV6,EV7,hg0,cL,ai,hx.yes,hx.le0,hx.lt',hx.get,hx.row,hw]|simp only[EVz,seval,↓reduceIte,EV6,EV7,hg0,cL,ai,hn]|simp only[EVz,seval,↓reduceIte,EV6,EV7,hg0,cL,ai]|(refine Zq (ι:=Bool) (l) (λi r c=>(l.all λx=>decide (x=zId))=(c&&r.all λx=>decide (x=zId))) (λi c=>[(1,.ref u.cs),(3,.lst 3 (l.map Idd.cs)),(4,.bool c),(5,.int .i64 i)]) (λ_ _=>[]) (true) (by rfl) (Weak.rfl' _ _) (by omega) (λi x r c hok hx hw=>?_) (λc hok hn=>?_))|(refine af hx _ ?_ (Weak.rfl' _ _))|fail))
 ·rw[hok,h];simp
 ·rw[hok,h];simp
 ·exact RET.eq hR (by rw[hok,h];simp)
 ·refine RET.eq hR ?_
  rw[hok]
  simp only[all_nil,Bool.and_true]
  rename_i h2
  rw[h2]
  have:¬(decide (u.id=zId)=decide (u.kind=0)):=by simpa using h
  simp[this]
 ·rename_i h2
  have hall:(l.all λx=>decide (x=zId))=false:=by rw[hok,h2];rfl
  have hdd:(decide (u.id=zId)=decide (u.kind=0)):=by simpa using h
  rw[hall,Bool.false_or,decide_eq_true hdd,Bool.true_and]at hR
  clear hok h h2 hall hdd
  (repeat' (first|(with_reducible (refine ae (λh=>?_) (λh=>?_))<;>(try simp only[Da,Db,Dc,Dw,De,Df,Dg,Dh]at h))|simp only[EVz,seval,↓reduceIte,EV6,EV7,ai,hy.yes,hy.le0,hy.lt',hy.row,hwk,hx.le0,hx.lt',hx.row]|simp only[EVz,seval,↓reduceIte,EV6,EV7,ai,hnk,hx.le0,hx.lt',hx.row,hw]|simp only[EVz,seval,↓reduceIte,EV6,EV7,ai,hx.yes,hx.le0,hx.lt',hx.get,hx.row,hw]|simp only[EVz,seval,↓reduceIte,EV6,EV7,ai,hn]|(refine af hx () ?_ (Weak.rfl' _ _))|(refine Zq (l) (λi r (c:Unit)=>(l.take i).Nodup) (λi c=>[(3,.lst 3 (l.map Idd.cs)),(6,.int .i64 i)]) (λ_ _=>[]) () (by((simp;done))) (Weak.rfl' _ _) (by omega) (λi x r c hok hx hw=>?_) (λc hok hn=>?_))|(refine W_take (l) (i) (Nat.le_of_lt hx.lt) (λk (c:Unit)=>¬x∈l.take k) (λk c=>[(3,.lst 3 (l.map Idd.cs)),(6,.int .i64 i),(7,.int .i64 k)]) (λ_ _=>[]) () (by simp) (Weak.rfl' _ _) (by have:=hx.lt;omega) (λk y c hok2 hy hwk=>?_) (λc hok2 hnk=>?_))|(refine mQ hy () ?_ (Weak.rfl' _ _))|fail))
  ·refine RET.eq hR (congrArg AV.bool (Eq.symm (decide_eq_false ?_)))
   intro hnd
   subst h
   exact pV hx hnd hy.mem
  ·rw[hy.take];simp[hok2,Ne.symm h]
  ·rw[hx.take]
   exact nodup_append.2 ⟨hok,by simp,by intro a ha b hb e;simp only[mem_singleton]at hb;subst hb e;exact hok2 ha⟩
  ·rw[take_length]at hok
   exact RET.eq hR (by rw[decide_eq_true hok])
def bW (l:List U):Prop:=(l.map λk=>(k.kind,k.label)).Nodup
instance (l:List U):Decidable (bW l):=inferInstanceAs (Decidable (List.Nodup _))
mutual
def U.right:U->Bool
 |⟨i,k,l,h,w,ks⟩=>fY ⟨i,k,l,h,w,ks⟩&&(U.rights k ks&&decide (bW ks))
def U.rights:Int->List U->Bool
 |_,[]=>true
 |k,u::us=>(nests k u.kind&&U.right u)&&U.rights k us
end
theorem U.right_eq (u:U):u.right=(fY u&&(U.rights u.kind u.kids&&decide (bW u.kids))):=by cases u;rw[U.right]
def U.Short (u:U):Prop:=u.Tame/\∀x∈u.flat,x.label.length<1000000000000000000/\x.head.length<1000000/\x.words.length<1000000/\(∀w∈x.head,w.text.length<1000000000000000000)/\(∀w∈x.words,w.text.length<1000000000000000000)
theorem U.flat_kid {u k x:U} (hk:k∈u.kids) (hx:x∈k.flat):x∈u.flat:=by
 rw[U.flat_eq]
 refine mem_cons_of_mem _ ?_
 have:∀us:List U,k∈us->x∈U.flats us:=by
  intro us
  induction us with
  |nil=>intro h;cases h
  |cons a us ih=>
   intro h
   rw[U.flats]
   rcases mem_cons.1 h with rfl|h
   ·exact mem_append.2 (.inl hx)
   ·exact mem_append.2 (.inr (ih h))
 exact this _ hk
theorem U.flat_self (u:U):u∈u.flat:=by rw[U.flat_eq];simp
theorem U.Short.kid {u k:U} (h:u.Short) (hk:k∈u.kids):k.Short:=⟨h.1.kid hk,λx hx=>h.2 x (U.flat_kid hk hx)⟩
theorem kD {l:List U} {i:Nat} {x y:U} {r:List U} (hx:Rest l i x r) (hy:y∈l.take i) (h1:y.kind=x.kind) (h2:y.label=x.label):¬bW l:=by
 intro h
 unfold bW at h
 have h3:((l.take (i+1)).map λk=>(k.kind,k.label)).Nodup:=h.sublist ((take_sublist (i+1) l).map _)
 rw[hx.take,map_append]at h3
 exact(nodup_append.1 h3).2.2 (y.kind,y.label) (mem_map.2 ⟨y,hy,rfl⟩) (x.kind,x.label) (by simp) (by rw[h1,h2])
theorem iB {l:List U} {i:Nat} {x:U} {r:List U} (hx:Rest l i x r) (h:bW (l.take i)) (hn:∀y∈l.take i,¬(y.kind=x.kind/\y.label=x.label)):bW (l.take (i+1)):=by
 unfold bW at*
 rw[hx.take,map_append]
 refine nodup_append.2 ⟨h,by simp,?_⟩
 intro a ha b hb e
 obtain⟨y,hy,rfl⟩:=mem_map.1 ha
 have hb:b=(x.kind,x.label):=by simpa using hb
 subst hb
 injection e with e1 e2
 exact hn y hy ⟨e1,e2⟩
theorem f224:∀(u:U),u.Short->Pure G Tryz.prog 224 [.agg u.cs] (.bool u.right):=by
 refine U.ind λu ih hs=>?_
 have hkl:=hs.1.kids
 have h0:=hs.2 u u.flat_self
 have hfit:=hs.1.1
 have hap0:bW ([]:List U):=by unfold bW;simp
 refine Pure.w c224 λR hR=>?_
 unfold s224 r224
 rw[U.right_eq]at hR
 (repeat' (first|(with_reducible (first|refine ae (λh=>?_) (λh=>?_)|refine ag (λh=>?_) (λh=>?_))<;>(try simp only[Da,Db,Dc,Dw,De,Df,Dg,Dh]at h))|(with_reducible first|refine ab (f255 G u hfit h0.1 h0.2.1 h0.2.2.1) ?_|refine ab (f256 G _ _) ?_|refine ab (ih x hx.mem (hs.kid hx.mem)) ?_)|simp only[EVz,seval,↓reduceIte,EV6,EV7,hy.yes,hy.le0,hy.lt',hy.row,hwk,hx.le0,hx.lt',hx.row]|simp only[EVz,seval,↓reduceIte,EV6,EV7,hnk,hx.le0,hx.lt',hx.row,hw]|simp only[EVz,seval,↓reduceIte,EV6,EV7,hx.yes,hx.le0,hx.lt',hx.get,hx.row,hw]|simp only[EVz,seval,↓reduceIte,EV6,EV7,hn]|simp only[EVz,seval,↓reduceIte,EV6,EV7]|(with_reducible intro blk hblk;(try(have hnx:=hblk;simp only[EVK]at hnx;(have hne:=hnx))))|(refine af hx () ?_ (Weak.rfl' _ _))|(refine Zq (u.kids) (λi r (c:Unit)=>U.rights u.kind u.kids=U.rights u.kind r/\bW (u.kids.take i)) (λi c=>[(1,.ref u.cs),(3,.int .i64 i)]) (λ_ _=>[]) () (by((simp[*];done))) (Weak.rfl' _ _) (by omega) (λi x r c hok hx hw=>?_) (λc hok hn=>?_))|(refine W_take (u.kids) (i) (Nat.le_of_lt hx.lt) (λk (c:Unit)=>∀y∈u.kids.take k,¬(y.kind=x.kind/\y.label=x.label)) (λk c=>[(1,.ref u.cs),(3,.int .i64 i),(4,.int .i64 k)]) (λ_ _=>[]) () (by simp) (Weak.rfl' _ _) (by have:=hx.lt;omega) (λk y c hok2 hy hwk=>?_) (λc hok2 hnk=>?_))|(refine mQ hy () ?_ (Weak.rfl' _ _))|fail))
 ·exact RET.eq hR (by rw[h];rfl)
 ·exact RET.eq hR (by rw[hok.1,U.rights,h,Bool.and_false];simp)
 ·exact RET.eq hR (by rw[decide_eq_false (kD hx hy.mem (by assumption) h)];simp)
 ·rw[hy.take]at hblk
  rcases mem_append.1 hblk with hb|hb
  ·exact hok2 _ hb
  ·simp only[mem_singleton]at hb;subst hb;exact λe=>h e.2
 ·rw[hy.take]at hblk
  rcases mem_append.1 hblk with hb|hb
  ·exact hok2 _ hb
  ·simp only[mem_singleton]at hb;subst hb;exact λe=>h e.1
 ·rename_i hn1
  exact⟨by rw[hok.1,U.rights,hn1,h];rfl,iB hx hok.2 hok2⟩
 ·exact RET.eq hR (by rw[hok.1,U.rights,h];simp)
 ·rw[take_length]at hok
  exact RET.eq hR (by rw[hok.1,h,U.rights,decide_eq_true hok.2];rfl)
def jN (u:U):Bool:=u.right&&(decide (u.dep<=8)&&(decide (u.cnt<=1024)&&il u))
theorem f196 (u:U) (hs:u.Short):Pure G Tryz.prog 196 [.agg u.cs] (.bool (jN u)):=by
 have ht:=hs.1
 refine Pure.w c196 λR hR=>?_
 unfold s196 r196
 (repeat' (first|(with_reducible (refine ag (λh=>?_) (λh=>?_))<;>(try simp only[Da,Db,Dc,Dw,De,Df,Dg,Dh]at h))|(with_reducible first|refine ab (f224 G u hs) ?_|refine ab (f225 G u ht) ?_|refine ab (f226 G u ht) ?_|refine ab (f227 G u ht) ?_)|simp only[EVz,seval,↓reduceIte,EV6,EV7]|fail))
 (all_goals(first|(refine RET.eq hR ?_;(refine congrArg AV.bool (Bool.eq_iff_iff.2 ?_);simp only[jN,EVB]at*;omega))|(refine RET.eq hR ?_;((simp_all[jN];done)))))
end
end Go.Av
