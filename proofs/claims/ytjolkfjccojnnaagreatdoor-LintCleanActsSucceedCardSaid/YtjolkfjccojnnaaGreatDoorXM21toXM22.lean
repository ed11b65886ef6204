/-
  ENACT, M21: lists of IDs looked through; what a unit takes; how deep.
-/
import Derived.Test.YtjolkfjccojnnaaGreatDoorXL38toXM9
import Derived.Test.YtjolkfjccojnnaaGreatDoorXM18toXM16
import Derived.Test.YtjolkfjccojnnaaGreatDoorXAv34toXAv36
namespace Go.Av
open Go Go.RowKit Go.Proofs List
set_option linter.unusedSimpArgs false
set_option linter.unusedVariables false
section
variable (G:Glob)
theorem f178k (σ:Store) (f:Value) (p:Idd->Bool) (l:List Idd) (hl:l.length<9000000000000000000) (hf:∀x∈l,cZ G Tryz.prog f [.agg x.cs] σ λr σ'=>r= .bool (p x)/\σ'=σ):
  aj G Tryz.prog 178 [.lst 3 (l.map Idd.cs),.sc f] σ λr σ'=>r= .int .i64 (idxF p 0 l)/\σ'=σ:=by
 refine aj.wk c178 λR hR=>?_
 unfold s178 r178
 simp only[Idd.cs]at hf
 (repeat' (first|(with_reducible (refine ae (λh=>?_) (λh=>?_))<;>(try simp only[Da,Db,Dc,Dw,De,Df,Dg,Dh]at h))|simp only[EVz,seval,↓reduceIte,EV6,EV7,hx.yes,hx.le0,hx.lt',hx.get,hx.row,hw]|simp only[EVz,seval,↓reduceIte,EV6,EV7,hn]|simp only[EVz,seval,↓reduceIte,EV6,EV7]|(refine af hx () ?_ (Weak.rfl' _ _))|(refine Zq l (λi r (c:Unit)=>idxF p 0 l=idxF p i r) (λi c=>[(0,.lst 3 (l.map Idd.cs)),(1,.sc f),(7,.int .i64 l.length),(8,.int .i64 i)]) (λ_ _=>σ) () rfl (Weak.rfl' _ _) (by omega) (λi x r c hok hx hw=>?_) (λc hok hn=>?_))|(refine eK (hf _ hx.mem) ?_)|fail))
 ·refine hR _ _ (.inl (.inl ?_)) (SubN.refl _)
  rw[hok,idxF,if_pos h]
 ·rw[hok,idxF,h];rfl
 ·refine hR _ _ (.inl (.inl ?_)) (SubN.refl _)
  rw[hok];rfl
theorem f111k (σ:Store) (f:Value) (p:Idd->Bool) (l:List Idd) (hl:l.length<9000000000000000000) (hf:∀x∈l,cZ G Tryz.prog f [.agg x.cs] σ λr σ'=>r= .bool (p x)/\σ'=σ):
  aj G Tryz.prog 111 [.lst 3 (l.map Idd.cs),.sc f] σ λr σ'=>r= .bool (l.any p)/\σ'=σ:=by
 refine aj.wk c111 λR hR=>?_
 unfold s111 r111
 have hI:=f178k G σ f p l hl hf
 (repeat' (first|simp only[EVz,seval,↓reduceIte,EV6,EV7]|(refine eK hI.v ?_)|fail))
 exact hR _ _ (.inl (.inl (congrArg AV.bool (eE p l 0)))) (SubN.refl _)
theorem f179 (l:List Idd) (k:Idd) (hl:l.length<9000000000000000000):Pure G Tryz.prog 179 [.lst 3 (l.map Idd.cs),.agg k.cs] (.int .i64 (idxF (λx=>decide (k=x)) 0 l)):=by
 refine Pure.w c179 λR hR=>?_
 unfold s179 r179
 (repeat' (first|(with_reducible (refine ae (λh=>?_) (λh=>?_))<;>(try simp only[Da,Db,Dc,Dw,De,Df,Dg,Dh]at h))|simp only[EVz,seval,↓reduceIte,EV6,EV7,ai,hx.yes,hx.le0,hx.lt',hx.get,hx.row,hw]|simp only[EVz,seval,↓reduceIte,EV6,EV7,ai,hn]|simp only[EVz,seval,↓reduceIte,EV6,EV7,ai]|(refine af hx () ?_ (Weak.rfl' _ _))|(refine Zq (l) (λi r (c:Unit)=>idxF (λx=>decide (k=x)) 0 l=idxF (λx=>decide (k=x)) i r) (λi c=>[(0,.lst 3 (l.map Idd.cs)),(3,.ref k.cs),(7,.int .i64 l.length),(8,.int .i64 i)]) (λ_ _=>[]) () (by rfl) (Weak.rfl' _ _) (by omega) (λi x r c hok hx hw=>?_) (λc hok hn=>?_))|fail))
 ·refine RET.eq hR ?_
  rw[hok,idxF,if_pos (decide_eq_true h)]
 ·rw[hok,idxF,if_neg (by simpa using h)]
 ·refine RET.eq hR ?_
  rw[hok];rfl
theorem f113 (l:List Idd) (k:Idd) (hl:l.length<9000000000000000000):Pure G Tryz.prog 113 [.lst 3 (l.map Idd.cs),.agg k.cs] (.bool (decide (k∈l))):=by
 have hI:=f179 G l k hl
 simp only[Idd.cs]at hI
 refine Pure.w c113 λR hR=>?_
 unfold s113 r113
 (repeat' (first|(with_reducible refine ab hI ?_)|simp only[EVz,seval,↓reduceIte,EV6,EV7]|fail))
 refine RET.eq hR (congrArg AV.bool ?_)
 rw[eE,Bool.eq_iff_iff,any_eq_true,decide_eq_true_eq]
 constructor
 ·rintro⟨x,hx,hd⟩;rw[of_decide_eq_true hd];exact hx
 ·intro h;exact⟨k,h,decide_eq_true rfl⟩
theorem f112 (b:Nat) (l:List Idd) (k:Idd) (hl:l.length<9000000000000000000):aj G Tryz.prog 112 [.agg k.cs,.sc (.pointer (some ⟨b,0,none⟩))] [(b,.cells 72 [.lst 3 (l.map Idd.cs)])] λr σ'=>r= .bool (decide (k∈l))/\σ'=[(b,.cells 72 [.lst 3 (l.map Idd.cs)])]:=by
 have hC:=f113 G l k hl
 simp only[Idd.cs]at hC
 refine aj.wk c112 λR hR=>?_
 unfold s112 r112
 (repeat' (first|(with_reducible refine ab hC ?_)|simp only[EVz,seval,↓reduceIte,EV6,EV7]|fail))
 exact hR _ _ (AVle.rfl' _) (SubN.refl _)
theorem f172 (b:Nat) (x k:U):aj G Tryz.prog 172 [.agg k.cs,.sc (.pointer (some ⟨b,0,none⟩))] [(b,.cells 27 x.cs)] λr σ'=>r= .bool (decide (k.kind=x.kind)&&decide (k.label=x.label))/\σ'=[(b,.cells 27 x.cs)]:=by
 refine aj.wk c172 λR hR=>?_
 unfold s172 r172
 rw[U.cs_eq x]at hR ⊢
 (repeat' (first|(with_reducible (refine ag (λh=>?_) (λh=>?_))<;>(try simp only[Da,Db,Dc,Dw,De,Df,Dg,Dh]at h))|simp only[EVz,seval,↓reduceIte,EV6,EV7]|fail))
 all_goals(refine hR _ _ (.inl (.inl (congrArg AV.bool ?_))) (SubN.refl _);simp[*])
variable (hG:GOk G)
include hG
theorem f107 (p x:U) (hp:p.kids.length<1000000):Pure G Tryz.prog 107 [.agg p.cs,.agg x.cs] (.int .i64 (bJ p p.kids x)):=by
 have hC:=f80 G hG p.kind x.kind
 refine Pure.w c107 λR hR=>?_
 unfold s107 r107
 unfold bJ cK at hR
 rw[U.cs_eq p,U.cs_eq x]
 cases hn:g6 p.kind x.kind with
 |false=>
  rw[hn]at hC hR
  (repeat' (first|(with_reducible refine ab hC ?_)|simp only[EVz,seval,↓reduceIte,EV6,EV7,hne]|simp only[EVz,seval,↓reduceIte,EV6,EV7]|(with_reducible intro blk hblk;(try(have hnx:=hblk;simp only[EVK]at hnx;(have hne:=hnx))))|fail))
  all_goals exact RQ hR
 |true=>
  rw[hn]at hC hR
  simp only[Bool.true_eq_false,if_false]at hR
  (repeat' (first|(with_reducible refine ab hC ?_)|simp only[EVz,seval,↓reduceIte,EV6,EV7,hne]|simp only[EVz,seval,↓reduceIte,EV6,EV7]|(with_reducible intro blk hblk;(try(have hnx:=hblk;simp only[EVK]at hnx;(have hne:=hnx))))|fail))
  have hF:=f171k G [(blk,.cells 27 x.cs)] (.func (.func 172) #[] #[.pointer (some ⟨blk,0,none⟩)]) (λk=>decide (k.kind=x.kind)&&decide (k.label=x.label)) p.kids (by omega)
   (λy hy=>⟨_,_,_,rfl,f172 G blk x y⟩)
  rw[U.cs_eq x]at hF
  cases ht:(p.kids.any λk=>decide (k.kind=x.kind)&&decide (k.label=x.label))with
  |false=>
   rw[ht]at hF hR
   (repeat' (first|simp only[EVz,seval,↓reduceIte,EV6,EV7,hne]|(refine eK hF.v ?_)|fail))
   all_goals exact RQ hR
  |true=>
   rw[ht]at hF hR
   (repeat' (first|simp only[EVz,seval,↓reduceIte,EV6,EV7,hne]|(refine eK hF.v ?_)|fail))
   all_goals exact RQ hR
omit hG
theorem f108 (u:U) (q:Idd) (x:U) (ht:u.Tame) (hx:x.Tame):Pure G Tryz.prog 108 [.agg u.cs,.agg q.cs,.agg x.cs] (.bool (decide (8<(((anc q u).length:Int)+1+x.dep)))):=by
 have hA:=f173 G q u ht
 have hD:=f174 G x hx
 simp only[Idd.cs]at hA
 have h1:(anc q u).length<=u.flat.length:=by
  unfold anc
  rw[length_reverse,length_map,length_dropLast]
  have:=el q u
  omega
 have h2:=ht.2
 have h3:=x.dep_cnt
 have h4:=hx.2
 have h5:=x.dep_ge
 unfold U.cnt at h3
 have w1:IntKind.i64.wrap (((anc q u).length:Int)+1)=((anc q u).length:Int)+1:=au (by omega) (by omega)
 have w2:IntKind.i64.wrap (((anc q u).length:Int)+1+x.dep)=((anc q u).length:Int)+1+x.dep:=au (by omega) (by omega)
 refine Pure.w c108 λR hR=>?_
 unfold s108 r108
 (repeat' (first|(with_reducible first|refine ab hA ?_|refine ab hD ?_)|simp only[EVz,seval,↓reduceIte,EV6,EV7,w1,w2]|fail))
 all_goals exact RQ hR
end
def dM:Option (Idd×Nat)->AV
 |some (q,k)=>.tup [.agg [.int .i64 q.act,.int .i64 q.item,.int .i64 q.n,.int .i64 k],.int .i64 0]
 |none=>.tup [.agg [.int .i64 0,.int .i64 0,.int .i64 0,.int .i64 0],.int .i64 9]
def cU:(Idd×Nat) ⊕ Int->AV
 | .inl (q,k)=>.tup [.agg [.int .i64 q.act,.int .i64 q.item,.int .i64 q.n],.int .i64 k,.int .i64 0]
 | .inr e=>.tup [.agg [.int .i64 0,.int .i64 0,.int .i64 0],.int .i64 0,.int .i64 e]
def dest (u:U) (x:Itm):(Idd×Nat) ⊕ Int:=
 if (one u x.at_).2≠0 then .inr (one u x.at_).2
 else if x.kind=0 then (match spot u (one u x.at_).1 x.wh with|none=>.inr 9|some q=>.inl q)
 else if (one u x.to_).2≠0 then .inr (one u x.to_).2
 else match fk u (one u x.at_).1 (one u x.to_).1 x.wh with|none=>.inr 9|some q=>.inl q
theorem gf {i:Idd} {u:U} (hi:i∈u.ids):(U.way i u).isEmpty=false:=by
 have:=ci.2 hi
 cases h:U.way i u<;>simp_all
section
variable (G:Glob)
theorem f245 (u:U) (i:Idd) (f:Value) (m:Int) (hs:u.Short) (hi:i∈u.ids) (hf:fL G Tryz.prog f [.int .i64 (fnd i u).kids.length] (.int .i64 m)):
  Pure G Tryz.prog 245 [.agg u.cs,.agg i.cs,.sc f] (.tup [.agg [.int .i64 i.act,.int .i64 i.item,.int .i64 i.n,.int .i64 m],.int .i64 0]):=by
 have hF:=f37 G i u hs
 unfold i8 at hF
 rw[gf hi,if_neg (by simp)]at hF
 simp only[Idd.cs]at hF
 rw[U.cs_eq (fnd i u)]at hF
 refine Pure.w c245 λR hR=>?_
 unfold s245 r245
 (repeat' (first|(with_reducible refine ab hF ?_)|simp only[EVz,seval,↓reduceIte,EV6,EV7,hne]|simp only[EVz,seval,↓reduceIte,EV6,EV7]|(with_reducible intro blk hblk;(try(have hnx:=hblk;simp only[EVK]at hnx;first|(have hne:=AI hnx hne)|(have hne:=hnx))))|(refine aK hf ?_)|fail))
 all_goals exact RQ hR
theorem f246 (n:Int):Pure G Tryz.prog 246 [.int .i64 n] (.int .i64 0):=by
 refine Pure.w c246 λR hR=>?_
 unfold s246 r246
 (repeat' (simp only[EVz,seval,↓reduceIte,EV6,EV7]))
 (all_goals((exact RET.eq hR rfl)))
theorem f248 (n:Int):Pure G Tryz.prog 248 [.int .i64 n] (.int .i64 n):=by
 refine Pure.w c248 λR hR=>?_
 unfold s248 r248
 (repeat' (simp only[EVz,seval,↓reduceIte,EV6,EV7]))
 (all_goals((exact RET.eq hR rfl)))
theorem f244 (u:U) (i:Idd) (hs:u.Short) (hi:i∈u.ids):Pure G Tryz.prog 244 [.agg u.cs,.agg i.cs] (dM (spot u i 0)):=by
 have hF:=f245 G u i _ 0 hs hi (f246 G _).v
 simp only[Idd.cs]at hF
 refine Pure.w c244 λR hR=>?_
 unfold s244 r244
 (repeat' (first|(with_reducible refine ab hF ?_)|simp only[EVz,seval,↓reduceIte,EV6,EV7,hne]|simp only[EVz,seval,↓reduceIte,EV6,EV7]|(with_reducible intro blk hblk;(try(have hnx:=hblk;simp only[EVK]at hnx;(have hne:=hnx))))|fail))
 all_goals exact RQ hR
theorem f247 (u:U) (i:Idd) (hs:u.Short) (hi:i∈u.ids):Pure G Tryz.prog 247 [.agg u.cs,.agg i.cs] (dM (spot u i 1)):=by
 have hF:=f245 G u i _ _ hs hi (f248 G _).v
 simp only[Idd.cs]at hF
 refine Pure.w c247 λR hR=>?_
 unfold s247 r247
 (repeat' (first|(with_reducible refine ab hF ?_)|simp only[EVz,seval,↓reduceIte,EV6,EV7,hne]|simp only[EVz,seval,↓reduceIte,EV6,EV7]|(with_reducible intro blk hblk;(try(have hnx:=hblk;simp only[EVK]at hnx;(have hne:=hnx))))|fail))
 all_goals exact RQ hR
theorem f250 (u:U) (i:Idd) (b:Nat) (hb:b<=1) (hs:u.Short) (hn:u.ids.Nodup) (hk:∀q,aN i u=some q->q.2.2<1000000):
  Pure G Tryz.prog 250 [.agg u.cs,.agg i.cs,.int .i64 b] (dM ((aN i u).map λq=>(q.1.id,q.2.2+b))):=by
 have hF:=f124 G i u hs hn
 simp only[Idd.cs]at hF
 unfold km at hF
 refine Pure.w c250 λR hR=>?_
 unfold s250 r250
 rcases hw:aN i u with _|⟨p,d,k⟩
 ·rw[hw]at hF hR
  (repeat' (first|(with_reducible refine ab hF ?_)|simp only[EVz,seval,↓reduceIte,EV6,EV7,hne]|simp only[EVz,seval,↓reduceIte,EV6,EV7]|(with_reducible intro blk hblk;(try(have hnx:=hblk;simp only[EVK]at hnx;first|(have hne:=AI hnx hne)|(have hne:=hnx))))|fail))
  all_goals exact RQ hR
 ·have hkk:=hk _ hw
  rw[hw]at hF hR
  simp only at hkk
  have e:IntKind.i64.wrap ((k:Int)+(b:Int))=((k+b:Nat):Int):=by rw[au (by omega) (by omega)];omega
  (repeat' (first|(with_reducible refine ab hF ?_)|simp only[EVz,seval,↓reduceIte,EV6,EV7,e,hne]|simp only[EVz,seval,↓reduceIte,EV6,EV7,e]|(with_reducible intro blk hblk;(try(have hnx:=hblk;simp only[EVK]at hnx;first|(have hne:=AI hnx hne)|(have hne:=hnx))))|fail))
  all_goals exact RQ hR
theorem f249 (u:U) (i:Idd) (hs:u.Short) (hn:u.ids.Nodup) (hk:∀q,aN i u=some q->q.2.2<1000000):Pure G Tryz.prog 249 [.agg u.cs,.agg i.cs] (dM (spot u i 2)):=by
 have hF:=f250 G u i 1 (by omega) hs hn hk
 simp only[Idd.cs]at hF
 have e:spot u i 2=(aN i u).map λq=>(q.1.id,q.2.2+1):=by unfold spot;simp
 rw[e]
 obtain⟨z,hz⟩:∃z,(aN i u).map (λq=>(q.1.id,q.2.2+1))=z:=⟨_,rfl⟩
 rw[hz]at hF ⊢
 refine Pure.w c249 λR hR=>?_
 unfold s249 r249
 unfold dM at hF hR
 rcases z with _|⟨q,k⟩<;>(repeat' (first|(with_reducible refine ab hF ?_)|simp only[EVz,seval,↓reduceIte,EV6,EV7,hne]|simp only[EVz,seval,↓reduceIte,EV6,EV7]|(with_reducible intro blk hblk;(try(have hnx:=hblk;simp only[EVK]at hnx;(have hne:=hnx))))|fail))
 all_goals exact RQ hR
theorem f251 (u:U) (i:Idd) (hs:u.Short) (hn:u.ids.Nodup) (hk:∀q,aN i u=some q->q.2.2<1000000):Pure G Tryz.prog 251 [.agg u.cs,.agg i.cs] (dM (spot u i 3)):=by
 have hF:=f250 G u i 0 (by omega) hs hn hk
 simp only[Idd.cs]at hF
 have e:spot u i 3=(aN i u).map λq=>(q.1.id,q.2.2+0):=by unfold spot;simp
 rw[e]
 obtain⟨z,hz⟩:∃z,(aN i u).map (λq=>(q.1.id,q.2.2+0))=z:=⟨_,rfl⟩
 rw[hz]at hF ⊢
 refine Pure.w c251 λR hR=>?_
 unfold s251 r251
 unfold dM at hF hR
 rcases z with _|⟨q,k⟩<;>(repeat' (first|(with_reducible refine ab hF ?_)|simp only[EVz,seval,↓reduceIte,EV6,EV7,hne]|simp only[EVz,seval,↓reduceIte,EV6,EV7]|(with_reducible intro blk hblk;(try(have hnx:=hblk;simp only[EVK]at hnx;(have hne:=hnx))))|fail))
 all_goals exact RQ hR
theorem f219:Pure G Tryz.prog 219 [] (.agg [fnV 244,fnV 247,fnV 249,fnV 251]):=by
 refine Pure.w c219 λR hR=>?_
 unfold s219 r219
 (repeat' (first|simp only[EVz,seval,↓reduceIte,EV6,EV7]|(with_reducible intro blk hblk;(try(have hnx:=hblk;simp only[EVK]at hnx;(have hne:=hnx))))|(refine pC (e:=198) (by kernel_rfl) (by kernel_rfl) (by kernel_rfl) ?_)|fail))
 all_goals exact RQ hR
def leadV (wh:Int):Value:=.func (.func (if wh=0 then 244 else if wh=1 then 247 else if wh=2 then 249 else 251)) #[] #[]
theorem lV (u:U) (i:Idd) (wh:Int) (h0:0<=wh) (h3:wh<=3) (hs:u.Short) (hi:i∈u.ids) (hn:u.ids.Nodup) (hk:∀q,aN i u=some q->q.2.2<1000000):fL G Tryz.prog (leadV wh) [.agg u.cs,.agg i.cs] (dM (spot u i wh)):=by
 have hh:wh=0\/wh=1\/wh=2\/wh=3:=by omega
 rcases hh with rfl|rfl|rfl|rfl
 ·exact(f244 G u i hs hi).v
 ·exact(f247 G u i hs hi).v
 ·exact(f249 G u i hs hn hk).v
 ·exact(f251 G u i hs hn hk).v
theorem nQ (w:Nat) (h:w<4):[fnV 244,fnV 247,fnV 249,fnV 251].getD w .any= .sc (leadV w):=by
 have hh:w=0\/w=1\/w=2\/w=3:=by omega
 rcases hh with rfl|rfl|rfl|rfl<;>rfl
end
end Go.Av
