/-
  LINT, 9: labels, addresses.
-/
import Derived.Test.YtepngejmjdgccaaGreatDoorXL5toXL8
import Derived.Test.YtepngejmjdgccaaGreatDoorShelf
import Derived.Shelf.Strings.FuncGrows
import Derived.Laws.RangeAny
namespace Go.Av
open Go Go.RowKit Go.Proofs
set_option linter.unusedSimpArgs false
set_option linter.unusedVariables false
theorem W_listF {α ι:Type} {G:Glob} {P:Program} {a:SCode} {Q:Exit->Env->Store->Prop} {tQ:Tag Q} {env:Env} {σ:Store} (l:List α) (i0:Nat) (ok:Nat->List α->ι->Prop) (st:Nat->ι->Env) (ss:Nat->ι->Store) (c0:ι)
  (hi:i0<=l.length) (h0:ok i0 (l.drop i0) c0) (hw:Weak G env σ (st i0 c0) (ss i0 c0)) (hl:l.length<9000000000000000000)
  (more:∀i x r c,ok i (x::r) c->Rest l i x r->IntKind.i64.wrap ((i:Int)+1)=((i+1:Nat):Int)->W G P a (NR (LK G l ok st ss i) Q ⟨⟩ ⟨⟩) (st i c) (ss i c) ⟨⟩)
  (fin:∀c,ok l.length [] c->decide ((l.length:Int)<(l.length:Int))=false->W G P a (NR (LK G l ok st ss l.length) Q ⟨⟩ ⟨⟩) (st l.length c) (ss l.length c) ⟨⟩):W G P (.loop a) Q env σ tQ:=by
 refine W_loop (ι:=Nat×List α×ι) (λj=>l.drop j.1=j.2.1/\j.1<=l.length/\ok j.1 j.2.1 j.2.2) (λj=>l.length-j.1) (λj=>st j.1 j.2.2) (λj=>ss j.1 j.2.2) (i0,l.drop i0,c0) ⟨rfl,hi,h0⟩ hw ?_
 rintro⟨i,r,c⟩ ⟨h1,h2,h3⟩
 simp only at h1 h2 h3 ⊢
 cases r with
 |nil=>
  obtain rfl:=left_nil h1 h2
  exact fin c h3 (by simp)
 |cons x r=>
  have hx:=left_cons h1
  exact more i x r c h3 hx (wrap_up (by have:=hx.lt;omega))
theorem idxFunc_bytes (p:Nat->Bool) (hp:∀n,128<=n->p n=true) (s:List UInt8):∀(f pos:Nat),pos<=s.length->s.length-pos<=f->
  Lib.idxFuncFrom p true ⟨⟨s⟩⟩ f pos=idxF (λc:UInt8=>p c.toNat) pos (s.drop pos)
 |0,pos,h1,h2=>by
  have:s.drop pos=[]:=List.drop_eq_nil_of_le (by omega)
  rw[this];rfl
 |f+1,pos,h1,h2=>by
  have hsz:(⟨⟨s⟩⟩:ByteArray).size=s.length:=rfl
  unfold Lib.idxFuncFrom
  rw[hsz]
  by_cases hlt:pos<s.length
  ·have hps:pos<(⟨⟨s⟩⟩:ByteArray).size:=hlt
   have e:s.drop pos=s[pos]::s.drop (pos+1):=List.drop_eq_getElem_cons hlt
   have eb:(⟨⟨s⟩⟩:ByteArray)[pos]'hps=s[pos]:=rfl
   rw[if_pos hlt,e,idxF]
   by_cases ha:(s[pos]).toNat<128
   ·have hd:=decode_ascii (⟨⟨s⟩⟩:ByteArray) pos hps (by rw[eb];exact ha)
    rw[hd,eb]
    cases hpc:p (s[pos]).toNat with
    |true=>simp
    |false=>simp;exact idxFunc_bytes p hp s f (pos+1) (by omega) (by omega)
   ·have hd:=decode_high (⟨⟨s⟩⟩:ByteArray) pos hps (by rw[eb];omega)
    rw[hp _ hd.1,hp _ (by omega)]
    simp
  ·rw[if_neg hlt,List.drop_eq_nil_of_le (by omega)]
   rfl
theorem below_of_ev {w w':World} (ev:Ev [] w [] w'):Below w.heap.size w w':=⟨ev.os,ev.tape,ev.output,ev.size,λk hk=>(ev.block k hk (by simp[Store.keys])).1⟩
section
variable (G:Glob)
theorem pred_grows {g:Nat} {p:Nat->Bool} {τ:Store} {w:World} (hS:Sat G τ w) (hg:∀n:Nat,Pure G Tryz.prog g [.int .i32 (n:Int)] (.bool (p n))):PredGrows Tryz.prog g #[] p w:=λW x hx hb=>by
 have:=(hg x).2 τ W (#[encR x]++#[]) (by simpa using Sat.below hS hb) (by simp[RepL,Rep])
 refine this.mono ?_
 rintro e w' ⟨v,r,σ',rfl,⟨rfl,rfl⟩,_,ev,hr⟩
 simp only[Rep]at hr
 exact⟨by rw[hr],below_of_ev ev⟩
theorem f205 (g:Nat) (p:Nat->Bool) (s:List UInt8) (eg:∀args w,(callFunc g args).run Tryz.prog w= .ok (.enter g args) w) (hp:∀n,128<=n->p n=true) (hg:∀n:Nat,Pure G Tryz.prog g [.int .i32 (n:Int)] (.bool (p n))):
  Pure G Tryz.prog 205 [.str s,.sc (.func (.func g) #[] #[])] (.int .i64 (idxF (λc:UInt8=>p c.toNat) 0 s)):=by
 refine Pure.of_calls Tryz.func205 (by kernel_rfl) (by kernel_rfl) λτ w vs hS hA=>?_
 obtain⟨u,v,rfl,h1,h2⟩:=vs_two hA
 simp only[Rep]at h1 h2
 subst h1 h2
 refine⟨.int .i64 (idxF (λc:UInt8=>p c.toNat) 0 s),λ_ _=>by simp only[Rep],?_⟩
 have h:=Any.strings_IndexFunc_grows Tryz.laysGw15 g #[] eg p ⟨⟨s⟩⟩ w (pred_grows G hS hg)
 have e:Lib.idxFunc p true ⟨⟨s⟩⟩=idxF (λc:UInt8=>p c.toNat) 0 s:=idxFunc_bytes p hp s s.length 0 (by omega) (by omega)
 rw[e]at h
 exact h
theorem f164 (g:Nat) (p:Nat->Bool) (s:List UInt8) (eg:∀args w,(callFunc g args).run Tryz.prog w= .ok (.enter g args) w) (hp:∀n,128<=n->p n=true) (hg:∀n:Nat,Pure G Tryz.prog g [.int .i32 (n:Int)] (.bool (p n))):
  Pure G Tryz.prog 164 [.str s,.sc (.func (.func g) #[] #[])] (.bool (s.any λc:UInt8=>p c.toNat)):=by
 refine Pure.of_calls Tryz.func164 (by kernel_rfl) (by kernel_rfl) λτ w vs hS hA=>?_
 obtain⟨u,v,rfl,h1,h2⟩:=vs_two hA
 simp only[Rep]at h1 h2
 subst h1 h2
 refine⟨.bool (s.any λc:UInt8=>p c.toNat),λ_ _=>by simp only[Rep],?_⟩
 have h:=Any.strings_ContainsFunc_grows Tryz.laysGw17 g #[] eg p ⟨⟨s⟩⟩ w (pred_grows G hS hg)
 have e:Lib.idxFunc p true ⟨⟨s⟩⟩=idxF (λc:UInt8=>p c.toNat) 0 s:=idxFunc_bytes p hp s s.length 0 (by omega) (by omega)
 rw[e,idxF_ge]at h
 exact h
def oddDig (n:Nat):Bool:=decide (n<48)||decide (57<n)
def oddUp (n:Nat):Bool:=decide (n<65)||decide (90<n)
theorem f206 (n:Nat):Pure G Tryz.prog 206 [.int .i32 (n:Int)] (.bool (oddDig n)):=by
 refine Pure.w c206 λR hR=>?_
 unfold s206 r206
 (repeat' (first|(with_reducible (refine gd_case (λh=>?_) (λh=>?_))<;>(try simp only[Da,Db,Dc,Dw,De,Df,Dg,Dh]at h))|simp only[EVz,seval,↓reduceIte,EV6,EV7]))
 (all_goals(((refine RET.eq hR ?_;(refine congrArg AV.bool (Bool.eq_iff_iff.2 ?_);simp only[oddDig,EVB]at*;omega)))))
theorem f163 (n:Nat):Pure G Tryz.prog 163 [.int .i32 (n:Int)] (.bool (oddUp n)):=by
 refine Pure.w c163 λR hR=>?_
 unfold s163 r163
 (repeat' (first|(with_reducible (refine gd_case (λh=>?_) (λh=>?_))<;>(try simp only[Da,Db,Dc,Dw,De,Df,Dg,Dh]at h))|simp only[EVz,seval,↓reduceIte,EV6,EV7]))
 (all_goals(((refine RET.eq hR ?_;(refine congrArg AV.bool (Bool.eq_iff_iff.2 ?_);simp only[oddUp,EVB]at*;omega)))))
theorem idxF_dig:∀(s:List UInt8) (i:Nat),idxF (λc:UInt8=>oddDig c.toNat) i s=if digN s<s.length then ((i+digN s:Nat):Int)else -1
 |[],i=>rfl
 |c::s,i=>by
  unfold idxF digN
  have hd:oddDig c.toNat= !isDig c:=by
   unfold oddDig isDig
   rw[Bool.eq_iff_iff]
   simp<;>omega
  rw[hd]
  cases h:isDig c with
  |true=>
   simp only[Bool.not_true,if_true,Bool.false_eq_true,if_false]
   rw[idxF_dig s (i+1)]
   simp only[List.length_cons]
   by_cases hl:digN s<s.length
   ·rw[if_pos hl,if_pos (by omega)];congr 1;omega
   ·rw[if_neg hl,if_neg (by omega)]
  |false=>simp
theorem any_up (s:List UInt8):(s.any λc:UInt8=>oddUp c.toNat)= !(s.all isUp):=by
 induction s with
 |nil=>rfl
 |cons c s ih=>
  rw[List.any_cons,List.all_cons,ih]
  have hd:oddUp c.toNat= !isUp c:=by
   unfold oddUp isUp
   rw[Bool.eq_iff_iff]
   simp<;>omega
  rw[hd]
  cases isUp c<;>simp
theorem f162 (s:List UInt8):Pure G Tryz.prog 162 [.str s] (.tup [.str (s.take (digN s)),.str (s.drop (digN s))]):=by
 refine Pure.w c162 λR hR=>?_
 unfold s162 r162
 have hle:=digN_le s
 have hc:=f205 G 206 oddDig s (enters_of Tryz.func206 (by kernel_rfl) rfl) (λn hn=>by simp[oddDig];omega) (λn=>f206 G n)
 rw[idxF_dig s 0,Nat.zero_add]at hc
 by_cases h:digN s<s.length
 ·rw[if_pos h]at hc
  (repeat' (first|(with_reducible (refine split_case (λh=>?_) (λh=>?_))<;>(try simp only[Da,Db,Dc,Dw,De,Df,Dg,Dh]at h))|(with_reducible refine And.intro (by omega) ?_)|(with_reducible refine CALL_pure (hc) ?_)|simp only[EVz,seval,↓reduceIte,EV6,EV7]|(exfalso;omega)))
  (all_goals(((refine RET.eq hR ?_;((simp_all[];done))))))
 ·rw[if_neg h]at hc
  have e:digN s=s.length:=by omega
  rw[e,List.take_length,List.drop_length]at hR
  (repeat' (first|(with_reducible refine CALL_pure (hc) ?_)|simp only[EVz,seval,↓reduceIte,EV6,EV7]))
  (all_goals((exact RET.eq hR rfl)))
theorem f117 (s:List UInt8):Pure G Tryz.prog 117 [.str s] (.bool (labelOk s)):=by
 refine Pure.w c117 λR hR=>?_
 unfold s117 r117
 have hle:=digN_le s
 have hmin:min (digN s) s.length=digN s:=Nat.min_eq_left hle
 have hcu:=f164 G 163 oddUp (s.drop (digN s)) (enters_of Tryz.func163 (by kernel_rfl) rfl) (λn hn=>by simp[oddUp];omega) (λn=>f163 G n)
 rw[any_up]at hcu
 by_cases h1:1<=digN s
 ·have hg:(s.take (digN s)).getD 0 0=s.getD 0 0:=by simp[List.getD,List.getElem?_take,show 0<digN s by omega]
  (repeat' (first|(with_reducible (refine gd_case (λh=>?_) (λh=>?_))<;>(try simp only[Da,Db,Dc,Dw,De,Df,Dg,Dh]at h))|(with_reducible refine And.intro (by omega) ?_)|(with_reducible refine CALL_pure (f162 G s) ?_)|(with_reducible refine CALL_pure (hcu) ?_)|simp only[EVz,seval,↓reduceIte,EV6,EV7,List.length_take,List.length_drop,hmin,hg,Bool.not_not]|(exfalso;omega)))
  (all_goals(first|(refine RET.eq hR ?_;(refine congrArg AV.bool (Bool.eq_iff_iff.2 ?_);simp only[labelOk,EVB]at*;omega))|(refine RET.eq hR ?_;((simp_all[labelOk];done)))))
 ·have hf:labelOk s=false:=by simp[labelOk,show ¬((1:Int)<=digN s)by omega]
  rw[hf]at hR
  (repeat' (first|(with_reducible (refine gd_case (λh=>?_) (λh=>?_))<;>(try simp only[Da,Db,Dc,Dw,De,Df,Dg,Dh]at h))|(with_reducible refine And.intro (by omega) ?_)|(with_reducible refine CALL_pure (f162 G s) ?_)|(with_reducible refine CALL_pure (hcu) ?_)|simp only[EVz,seval,↓reduceIte,EV6,EV7,List.length_take,List.length_drop,hmin]|(exfalso;omega)))
  (all_goals((exact RET.eq hR rfl)))
theorem f32 (s:List UInt8) (hs:s.length<1000000000000000000):Pure G Tryz.prog 32 [.str s] (.bool (labelOk s)):=by
 refine Pure.w c32 λR hR=>?_
 unfold s32 r32
 have hle:=digN_le s
 have hw2:IntKind.i64.wrap ((s.length:Int)-(digN s:Int))=((s.length-digN s:Nat):Int):=by rw[wrap_i64 (by omega) (by omega)];omega
 (repeat' (first|(with_reducible (first|refine split_case (λh=>?_) (λh=>?_)|refine gd_case (λh=>?_) (λh=>?_))<;>(try simp only[Da,Db,Dc,Dw,De,Df,Dg,Dh]at h))|(with_reducible refine And.intro (by omega) ?_)|(with_reducible refine CALL_pure (f56 G s hs) ?_)|simp only[EVz,seval,↓reduceIte,EV6,EV7,hw2,hx.yes,hx.le0,hx.lt',hx.get,hx.row,hw]|simp only[EVz,seval,↓reduceIte,EV6,EV7,hw2,hn]|simp only[EVz,seval,↓reduceIte,EV6,EV7,hw2]|(refine LK_next hx () ?_ (Weak.rfl' _ _))|(refine W_listF s (digN s) (λi r (c:Unit)=>(s.drop (digN s)).all isUp=r.all isUp) (λi c=>[(0,.str s),(4,.int .i64 i)]) (λ_ _=>[]) () hle rfl (Weak.rfl' _ _) (by omega) (λi x r c hok hx hw=>?_) (λc hok hn=>?_))))
 (all_goals(first|(refine RET.eq hR ?_;(refine congrArg AV.bool (Bool.eq_iff_iff.2 ?_);simp only[labelOk,isUp,EVB]at*;omega))|(refine RET.eq hR ?_;first|(simp_all[labelOk,isUp];done)|(simp_all[labelOk,isUp];omega))|(simp_all[labelOk,isUp];done)))
end
section
variable (G:Glob)
theorem f26 (p:List Stp) (hl:p.length<1000000) (ht:∀x∈p,x.label.length<1000000000000000000):Pure G Tryz.prog 26 [.lst 2 (p.map Stp.cs)] (.bool (addrOk p)):=by
 refine Pure.w c26 λR hR=>?_
 unfold s26 r26
 (repeat' (first|(with_reducible (first|refine split_case (λh=>?_) (λh=>?_)|refine gd_case (λh=>?_) (λh=>?_))<;>(try simp only[Da,Db,Dc,Dw,De,Df,Dg,Dh]at h))|(with_reducible refine CALL_pure (f50 G _ _) ?_)|(with_reducible refine CALL_pure (f32 G _ (ht _ hx.mem)) ?_)|simp only[EVz,seval,↓reduceIte,EV6,EV7,hx.yes,hx.le0,hx.lt',hx.get,hx.row,hw]|simp only[EVz,seval,↓reduceIte,EV6,EV7,hn]|simp only[EVz,seval,↓reduceIte,EV6,EV7]|(refine LK_next hx () ?_ (Weak.rfl' _ _))|(refine W_list (p) (λi r (c:Unit)=>stepsOk 0 p=stepsOk i r) (λi c=>[(0,.lst 2 (p.map Stp.cs)),(3,.int .i64 i)]) (λ_ _=>[]) () (by rfl) (Weak.rfl' _ _) (by omega) (λi x r c hok hx hw=>?_) (λc hok hn=>?_))))
 (all_goals(first|(refine RET.eq hR ?_;(refine congrArg AV.bool (Bool.eq_iff_iff.2 ?_);simp only[addrOk,stepsOk,stepOk,EVB]at*;omega))|(refine RET.eq hR ?_;first|(simp only[addrOk,stepsOk,stepOk,hok,h,EVC,decide_true,decide_false];done)|(simp_all[addrOk,stepsOk,stepOk];done)|(simp_all[addrOk,stepsOk,stepOk];omega))|(simp_all[addrOk,stepsOk,stepOk];done)))
end
end Go.Av
