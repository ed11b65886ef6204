/-
  ENACT, M21: lists of IDs looked through; what a unit takes; how deep.
-/
import Derived.Test.YtcecmifknojgeaaGreatDoorXM3toXM6
import Derived.Test.YtcecmifknojgeaaGreatDoorXM11toXM16
import Derived.Test.YtcecmifknojgeaaGreatDoorXAv34toXM15
import Derived.Test.YtcecmifknojgeaaGreatDoorXM17toXM10
namespace Go.Av
open Go Go.RowKit Go.Proofs List
set_option linter.unusedSimpArgs false
set_option linter.unusedVariables false
section
variable (G:Glob)
theorem f166k (σ:Store) (f:Value) (p:Idd->Bool) (l:List Idd) (hl:l.length<9000000000000000000) (hf:∀x∈l,cZ G Tryz.prog f [.agg x.cs] σ λr σ'=>r= .bool (p x)/\σ'=σ):
  aj G Tryz.prog 166 [.lst 3 (l.map Idd.cs),.sc f] σ λr σ'=>r= .int .i64 (idxF p 0 l)/\σ'=σ:=by
 refine aj.wk c166 λR hR=>?_
 unfold s166 r166
 simp only[Idd.cs]at hf
 (repeat' (first|(with_reducible (refine ae (λh=>?_) (λh=>?_))<;>(try simp only[Da,Db,Dc,Dw,De,Df,Dg,Dh]at h))|simp only[EVz,seval,↓reduceIte,EV6,EV7,hx.yes,hx.le0,hx.lt',hx.get,hx.row,hw]|simp only[EVz,seval,↓reduceIte,EV6,EV7,hn]|simp only[EVz,seval,↓reduceIte,EV6,EV7]|(refine af hx () ?_ (Weak.rfl' _ _))|(refine Zq l (λi r (c:Unit)=>idxF p 0 l=idxF p i r) (λi c=>[(0,.lst 3 (l.map Idd.cs)),(1,.sc f),(7,.int .i64 l.length),(8,.int .i64 i)]) (λ_ _=>σ) () rfl (Weak.rfl' _ _) (by omega) (λi x r c hok hx hw=>?_) (λc hok hn=>?_))|(refine eK (hf _ hx.mem) ?_)|fail))
 ·refine hR _ _ (.inl (.inl ?_)) (SubN.refl _)
  rw[hok,idxF,if_pos h]
 ·rw[hok,idxF,h];rfl
 ·refine hR _ _ (.inl (.inl ?_)) (SubN.refl _)
  rw[hok];rfl
theorem f91k (σ:Store) (f:Value) (p:Idd->Bool) (l:List Idd) (hl:l.length<9000000000000000000) (hf:∀x∈l,cZ G Tryz.prog f [.agg x.cs] σ λr σ'=>r= .bool (p x)/\σ'=σ):
  aj G Tryz.prog 91 [.lst 3 (l.map Idd.cs),.sc f] σ λr σ'=>r= .bool (l.any p)/\σ'=σ:=by
 refine aj.wk c91 λR hR=>?_
 unfold s91 r91
 have hI:=f166k G σ f p l hl hf
 (repeat' (first|simp only[EVz,seval,↓reduceIte,EV6,EV7]|(refine eK hI.v ?_)|fail))
 exact hR _ _ (.inl (.inl (congrArg AV.bool (eE p l 0)))) (SubN.refl _)
theorem f167 (l:List Idd) (k:Idd) (hl:l.length<9000000000000000000):Pure G Tryz.prog 167 [.lst 3 (l.map Idd.cs),.agg k.cs] (.int .i64 (idxF (λx=>decide (k=x)) 0 l)):=by
 refine Pure.w c167 λR hR=>?_
 unfold s167 r167
 (repeat' (first|(with_reducible (refine ae (λh=>?_) (λh=>?_))<;>(try simp only[Da,Db,Dc,Dw,De,Df,Dg,Dh]at h))|simp only[EVz,seval,↓reduceIte,EV6,EV7,ai,hx.yes,hx.le0,hx.lt',hx.get,hx.row,hw]|simp only[EVz,seval,↓reduceIte,EV6,EV7,ai,hn]|simp only[EVz,seval,↓reduceIte,EV6,EV7,ai]|(refine af hx () ?_ (Weak.rfl' _ _))|(refine Zq (l) (λi r (c:Unit)=>idxF (λx=>decide (k=x)) 0 l=idxF (λx=>decide (k=x)) i r) (λi c=>[(0,.lst 3 (l.map Idd.cs)),(3,.ref k.cs),(7,.int .i64 l.length),(8,.int .i64 i)]) (λ_ _=>[]) () (by rfl) (Weak.rfl' _ _) (by omega) (λi x r c hok hx hw=>?_) (λc hok hn=>?_))|fail))
 ·refine RET.eq hR ?_
  rw[hok,idxF,if_pos (decide_eq_true h)]
 ·rw[hok,idxF,if_neg (by simpa using h)]
 ·refine RET.eq hR ?_
  rw[hok];rfl
theorem f93 (l:List Idd) (k:Idd) (hl:l.length<9000000000000000000):Pure G Tryz.prog 93 [.lst 3 (l.map Idd.cs),.agg k.cs] (.bool (decide (k∈l))):=by
 have hI:=f167 G l k hl
 simp only[Idd.cs]at hI
 refine Pure.w c93 λR hR=>?_
 unfold s93 r93
 (repeat' (first|(with_reducible refine ab hI ?_)|simp only[EVz,seval,↓reduceIte,EV6,EV7]|fail))
 refine RET.eq hR (congrArg AV.bool ?_)
 rw[eE,Bool.eq_iff_iff,any_eq_true,decide_eq_true_eq]
 constructor
 ·rintro⟨x,hx,hd⟩;rw[of_decide_eq_true hd];exact hx
 ·intro h;exact⟨k,h,decide_eq_true rfl⟩
theorem f92 (b:Nat) (l:List Idd) (k:Idd) (hl:l.length<9000000000000000000):aj G Tryz.prog 92 [.agg k.cs,.sc (.pointer (some ⟨b,0,none⟩))] [(b,.cells 70 [.lst 3 (l.map Idd.cs)])] λr σ'=>r= .bool (decide (k∈l))/\σ'=[(b,.cells 70 [.lst 3 (l.map Idd.cs)])]:=by
 have hC:=f93 G l k hl
 simp only[Idd.cs]at hC
 refine aj.wk c92 λR hR=>?_
 unfold s92 r92
 (repeat' (first|(with_reducible refine ab hC ?_)|simp only[EVz,seval,↓reduceIte,EV6,EV7]|fail))
 exact hR _ _ (AVle.rfl' _) (SubN.refl _)
theorem f164 (b:Nat) (x k:U):aj G Tryz.prog 164 [.agg k.cs,.sc (.pointer (some ⟨b,0,none⟩))] [(b,.cells 27 x.cs)] λr σ'=>r= .bool (decide (k.kind=x.kind)&&decide (k.label=x.label))/\σ'=[(b,.cells 27 x.cs)]:=by
 refine aj.wk c164 λR hR=>?_
 unfold s164 r164
 rw[U.cs_eq x]at hR ⊢
 (repeat' (first|(with_reducible (refine ag (λh=>?_) (λh=>?_))<;>(try simp only[Da,Db,Dc,Dw,De,Df,Dg,Dh]at h))|simp only[EVz,seval,↓reduceIte,EV6,EV7]|fail))
 all_goals(refine hR _ _ (.inl (.inl (congrArg AV.bool ?_))) (SubN.refl _);simp[*])
variable (hG:GOk G)
include hG
theorem f89 (p x:U) (hp:p.kids.length<1000000):Pure G Tryz.prog 89 [.agg p.cs,.agg x.cs] (.int .i64 (bJ p p.kids x)):=by
 have hC:=f86 G hG p.kind x.kind
 refine Pure.w c89 λR hR=>?_
 unfold s89 r89
 unfold bJ cK at hR
 rw[U.cs_eq p,U.cs_eq x]
 cases hn:nests p.kind x.kind with
 |false=>
  rw[hn]at hC hR
  (repeat' (first|(with_reducible refine ab hC ?_)|simp only[EVz,seval,↓reduceIte,EV6,EV7,hne]|simp only[EVz,seval,↓reduceIte,EV6,EV7]|(with_reducible intro blk hblk;(try(have hnx:=hblk;simp only[EVK]at hnx;(have hne:=hnx))))|fail))
  all_goals exact RQ hR
 |true=>
  rw[hn]at hC hR
  simp only[Bool.true_eq_false,if_false]at hR
  (repeat' (first|(with_reducible refine ab hC ?_)|simp only[EVz,seval,↓reduceIte,EV6,EV7,hne]|simp only[EVz,seval,↓reduceIte,EV6,EV7]|(with_reducible intro blk hblk;(try(have hnx:=hblk;simp only[EVK]at hnx;(have hne:=hnx))))|fail))
  have hF:=f163k G [(blk,.cells 27 x.cs)] (.func (.func 164) #[] #[.pointer (some ⟨blk,0,none⟩)]) (λk=>decide (k.kind=x.kind)&&decide (k.label=x.label)) p.kids (by omega)
   (λy hy=>⟨_,_,_,rfl,f164 G blk x y⟩)
  rw[U.cs_eq x]at hF
  cases ht:(p.kids.any λk=>decide (k.kind=x.kind)&&decide (k.label=x.label))with
  |false=>
   rw[ht]at hF hR
   (repeat' (first|simp only[EVz,seval,↓reduceIte,EV6,EV7,hne]|(refine eK hF.v ?_)|fail))
   all_goals exact RQ hR
  |true=>
   rw[ht]at hF hR
   (repeat' (first|simp only[EVz,seval,↓reduceIte,EV6,EV7,hne]|(refine eK hF.v ?_)|fail))
   all_goals exact RQ hR
omit hG
theorem f90 (u:U) (q:Idd) (x:U) (ht:u.Tame) (hx:x.Tame):Pure G Tryz.prog 90 [.agg u.cs,.agg q.cs,.agg x.cs] (.bool (decide (8<(((anc q u).length:Int)+1+x.dep)))):=by
 have hA:=f165 G q u ht
 have hD:=f54 G x hx
 simp only[Idd.cs]at hA
 have h1:(anc q u).length<=u.flat.length:=by
  unfold anc
  rw[length_reverse,length_map,length_dropLast]
  have:=el q u
  omega
 have h2:=ht.2
 have h3:=x.dep_cnt
 have h4:=hx.2
 have h5:=x.dep_ge
 unfold U.cnt at h3
 have w1:IntKind.i64.wrap (((anc q u).length:Int)+1)=((anc q u).length:Int)+1:=au (by omega) (by omega)
 have w2:IntKind.i64.wrap (((anc q u).length:Int)+1+x.dep)=((anc q u).length:Int)+1+x.dep:=au (by omega) (by omega)
 refine Pure.w c90 λR hR=>?_
 unfold s90 r90
 (repeat' (first|(with_reducible first|refine ab hA ?_|refine ab hD ?_)|simp only[EVz,seval,↓reduceIte,EV6,EV7,w1,w2]|fail))
 all_goals exact RQ hR
end
def dM:Option (Idd×Nat)->AV
 |some (q,k)=>.tup [.agg [.int .i64 q.act,.int .i64 q.item,.int .i64 q.n,.int .i64 k],.int .i64 0]
 |none=>.tup [.agg [.int .i64 0,.int .i64 0,.int .i64 0,.int .i64 0],.int .i64 9]
def cU:(Idd×Nat) ⊕ Int->AV
 | .inl (q,k)=>.tup [.agg [.int .i64 q.act,.int .i64 q.item,.int .i64 q.n],.int .i64 k,.int .i64 0]
 | .inr e=>.tup [.agg [.int .i64 0,.int .i64 0,.int .i64 0],.int .i64 0,.int .i64 e]
def dest (u:U) (x:Itm):(Idd×Nat) ⊕ Int:=
 if (one u x.at_).2≠0 then .inr (one u x.at_).2
 else if x.kind=0 then (match spot u (one u x.at_).1 x.wh with|none=>.inr 9|some q=>.inl q)
 else if (one u x.to_).2≠0 then .inr (one u x.to_).2
 else match fk u (one u x.at_).1 (one u x.to_).1 x.wh with|none=>.inr 9|some q=>.inl q
theorem gf {i:Idd} {u:U} (hi:i∈u.ids):(U.way i u).isEmpty=false:=by
 have:=ci.2 hi
 cases h:U.way i u<;>simp_all
section
variable (G:Glob)
theorem f235 (u:U) (i:Idd) (f:Value) (m:Int) (hs:u.Short) (hi:i∈u.ids) (hf:fL G Tryz.prog f [.int .i64 (fnd i u).kids.length] (.int .i64 m)):
  Pure G Tryz.prog 235 [.agg u.cs,.agg i.cs,.sc f] (.tup [.agg [.int .i64 i.act,.int .i64 i.item,.int .i64 i.n,.int .i64 m],.int .i64 0]):=by
 have hF:=f31 G i u hs
 unfold i8 at hF
 rw[gf hi,if_neg (by simp)]at hF
 simp only[Idd.cs]at hF
 rw[U.cs_eq (fnd i u)]at hF
 refine Pure.w c235 λR hR=>?_
 unfold s235 r235
 (repeat' (first|(with_reducible refine ab hF ?_)|simp only[EVz,seval,↓reduceIte,EV6,EV7,hne]|simp only[EVz,seval,↓reduceIte,EV6,EV7]|(with_reducible intro blk hblk;(try(have hnx:=hblk;simp only[EVK]at hnx;first|(have hne:=AI hnx hne)|(have hne:=hnx))))|(refine aK hf ?_)|fail))
 all_goals exact RQ hR
theorem f236 (n:Int):Pure G Tryz.prog 236 [.int .i64 n] (.int .i64 0):=by
 refine Pure.w c236 λR hR=>?_
 unfold s236 r236
 (repeat' (simp only[EVz,seval,↓reduceIte,EV6,EV7]))
 (all_goals((exact RET.eq hR rfl)))
theorem f238 (n:Int):Pure G Tryz.prog 238 [.int .i64 n] (.int .i64 n):=by
 refine Pure.w c238 λR hR=>?_
 unfold s238 r238
 (repeat' (simp only[EVz,seval,↓reduceIte,EV6,EV7]))
 (all_goals((exact RET.eq hR rfl)))
theorem f234 (u:U) (i:Idd) (hs:u.Short) (hi:i∈u.ids):Pure G Tryz.prog 234 [.agg u.cs,.agg i.cs] (dM (spot u i 0)):=by
 have hF:=f235 G u i _ 0 hs hi (f236 G _).v
 simp only[Idd.cs]at hF
 refine Pure.w c234 λR hR=>?_
 unfold s234 r234
 (repeat' (first|(with_reducible refine ab hF ?_)|simp only[EVz,seval,↓reduceIte,EV6,EV7,hne]|simp only[EVz,seval,↓reduceIte,EV6,EV7]|(with_reducible intro blk hblk;(try(have hnx:=hblk;simp only[EVK]at hnx;(have hne:=hnx))))|fail))
 all_goals exact RQ hR
theorem f237 (u:U) (i:Idd) (hs:u.Short) (hi:i∈u.ids):Pure G Tryz.prog 237 [.agg u.cs,.agg i.cs] (dM (spot u i 1)):=by
 have hF:=f235 G u i _ _ hs hi (f238 G _).v
 simp only[Idd.cs]at hF
 refine Pure.w c237 λR hR=>?_
 unfold s237 r237
 (repeat' (first|(with_reducible refine ab hF ?_)|simp only[EVz,seval,↓reduceIte,EV6,EV7,hne]|simp only[EVz,seval,↓reduceIte,EV6,EV7]|(with_reducible intro blk hblk;(try(have hnx:=hblk;simp only[EVK]at hnx;(have hne:=hnx))))|fail))
 all_goals exact RQ hR
theorem f240 (u:U) (i:Idd) (b:Nat) (hb:b<=1) (hs:u.Short) (hn:u.ids.Nodup) (hk:∀q,aN i u=some q->q.2.2<1000000):
  Pure G Tryz.prog 240 [.agg u.cs,.agg i.cs,.int .i64 b] (dM ((aN i u).map λq=>(q.1.id,q.2.2+b))):=by
 have hF:=f104 G i u hs hn
 simp only[Idd.cs]at hF
 unfold km at hF
 refine Pure.w c240 λR hR=>?_
 unfold s240 r240
 rcases hw:aN i u with _|⟨p,d,k⟩
 ·rw[hw]at hF hR
  (repeat' (first|(with_reducible refine ab hF ?_)|simp only[EVz,seval,↓reduceIte,EV6,EV7,hne]|simp only[EVz,seval,↓reduceIte,EV6,EV7]|(with_reducible intro blk hblk;(try(have hnx:=hblk;simp only[EVK]at hnx;first|(have hne:=AI hnx hne)|(have hne:=hnx))))|fail))
  all_goals exact RQ hR
 ·have hkk:=hk _ hw
  rw[hw]at hF hR
  simp only at hkk
  have e:IntKind.i64.wrap ((k:Int)+(b:Int))=((k+b:Nat):Int):=by rw[au (by omega) (by omega)];omega
  (repeat' (first|(with_reducible refine ab hF ?_)|simp only[EVz,seval,↓reduceIte,EV6,EV7,e,hne]|simp only[EVz,seval,↓reduceIte,EV6,EV7,e]|(with_reducible intro blk hblk;(try(have hnx:=hblk;simp only[EVK]at hnx;first|(have hne:=AI hnx hne)|(have hne:=hnx))))|fail))
  all_goals exact RQ hR
theorem f239 (u:U) (i:Idd) (hs:u.Short) (hn:u.ids.Nodup) (hk:∀q,aN i u=some q->q.2.2<1000000):Pure G Tryz.prog 239 [.agg u.cs,.agg i.cs] (dM (spot u i 2)):=by
 have hF:=f240 G u i 1 (by omega) hs hn hk
 simp only[Idd.cs]at hF
 have e:spot u i 2=(aN i u).map λq=>(q.1.id,q.2.2+1):=by unfold spot;simp
 rw[e]
 obtain⟨z,hz⟩:∃z,(aN i u).map (λq=>(q.1.id,q.2.2+1))=z:=⟨_,rfl⟩
 rw[hz]at hF ⊢
 refine Pure.w c239 λR hR=>?_
 unfold s239 r239
 unfold dM at hF hR
 rcases z with _|⟨q,k⟩<;>(repeat' (first|(with_reducible refine ab hF ?_)|simp only[EVz,seval,↓reduceIte,EV6,EV7,hne]|simp only[EVz,seval,↓reduceIte,EV6,EV7]|(with_reducible intro blk hblk;(try(have hnx:=hblk;simp only[EVK]at hnx;(have hne:=hnx))))|fail))
 all_goals exact RQ hR
theorem f241 (u:U) (i:Idd) (hs:u.Short) (hn:u.ids.Nodup) (hk:∀q,aN i u=some q->q.2.2<1000000):Pure G Tryz.prog 241 [.agg u.cs,.agg i.cs] (dM (spot u i 3)):=by
 have hF:=f240 G u i 0 (by omega) hs hn hk
 simp only[Idd.cs]at hF
 have e:spot u i 3=(aN i u).map λq=>(q.1.id,q.2.2+0):=by unfold spot;simp
 rw[e]
 obtain⟨z,hz⟩:∃z,(aN i u).map (λq=>(q.1.id,q.2.2+0))=z:=⟨_,rfl⟩
 rw[hz]at hF ⊢
 refine Pure.w c241 λR hR=>?_
 unfold s241 r241
 unfold dM at hF hR
 rcases z with _|⟨q,k⟩<;>(repeat' (first|(with_reducible refine ab hF ?_)|simp only[EVz,seval,↓reduceIte,EV6,EV7,hne]|simp only[EVz,seval,↓reduceIte,EV6,EV7]|(with_reducible intro blk hblk;(try(have hnx:=hblk;simp only[EVK]at hnx;(have hne:=hnx))))|fail))
 all_goals exact RQ hR
theorem f209:Pure G Tryz.prog 209 [] (.agg [fnV 234,fnV 237,fnV 239,fnV 241]):=by
 refine Pure.w c209 λR hR=>?_
 unfold s209 r209
 (repeat' (first|simp only[EVz,seval,↓reduceIte,EV6,EV7]|(with_reducible intro blk hblk;(try(have hnx:=hblk;simp only[EVK]at hnx;(have hne:=hnx))))|(refine pC (e:=210) (by kernel_rfl) (by kernel_rfl) (by kernel_rfl) ?_)|fail))
 all_goals exact RQ hR
def leadV (wh:Int):Value:=.func (.func (if wh=0 then 234 else if wh=1 then 237 else if wh=2 then 239 else 241)) #[] #[]
theorem lV (u:U) (i:Idd) (wh:Int) (h0:0<=wh) (h3:wh<=3) (hs:u.Short) (hi:i∈u.ids) (hn:u.ids.Nodup) (hk:∀q,aN i u=some q->q.2.2<1000000):fL G Tryz.prog (leadV wh) [.agg u.cs,.agg i.cs] (dM (spot u i wh)):=by
 have hh:wh=0\/wh=1\/wh=2\/wh=3:=by omega
 rcases hh with rfl|rfl|rfl|rfl
 ·exact(f234 G u i hs hi).v
 ·exact(f237 G u i hs hi).v
 ·exact(f239 G u i hs hn hk).v
 ·exact(f241 G u i hs hn hk).v
theorem nQ (w:Nat) (h:w<4):[fnV 234,fnV 237,fnV 239,fnV 241].getD w .any= .sc (leadV w):=by
 have hh:w=0\/w=1\/w=2\/w=3:=by omega
 rcases hh with rfl|rfl|rfl|rfl<;>rfl
end
def insPt (u:U) (p:List Stp) (wh:Int):(Idd×Nat) ⊕ Int:=
 if (one u p).2≠0 then .inr (one u p).2 else match spot u (one u p).1 wh with|none=>.inr 9|some q=>.inl q
section
variable (G:Glob)
set_option maxHeartbeats 4000000 in
theorem f160 (u:U) (p:List Stp) (wh:Int) (hs:u.Short) (hN:u.flat.length<=1024) (hn:u.ids.Nodup) (hk:∀i q,aN i u=some q->q.2.2<1000000) (hp:p.length<1000000) (h0:0<=wh) (h3:wh<=3):
  Pure G Tryz.prog 160 [.agg u.cs,.lst 2 (p.map Stp.cs),.int .i64 wh] (cU (insPt u p wh)):=by
 obtain⟨w,rfl⟩:=Int.eq_ofNat_of_zero_le h0
 have hw4:w<4:=by omega
 have hO:=f39 G u p hs.1 hN hp
 have hW:=f161 G (w:Int)
 have hL:=f209 G
 have e1:inR (w:Int) 0 3=true:=by simp[inR];omega
 rw[e1]at hW
 unfold gx at hO
 have hid:=bU (u:=u) (p:=p)
 unfold insPt
 obtain⟨⟨i,e⟩,hie⟩:∃z,one u p=z:=⟨_,rfl⟩
 rw[hie]at hO hid ⊢
 simp only at hO hid ⊢
 refine Pure.w c160 λR hR=>?_
 unfold s160 r160
 rcases Classical.em (e=0)with h|h
 ·subst h
  have hV:=lV G u i w h0 h3 hs (hid rfl) hn (hk i)
  have hget:=nQ w hw4
  simp only[Idd.cs]at hV
  rw[if_neg (by simp)]at hR
  obtain⟨f,hf⟩:∃f,leadV (w:Int)=f:=⟨_,rfl⟩
  rw[hf]at hV hget
  rcases hz:spot u i w with _|⟨q,k⟩
  ·rw[hz]at hR hV
   unfold dM at hV
   unfold cU at hR
   (repeat' (first|(with_reducible first|refine ab hO ?_|refine ab hW ?_|refine ab hL ?_)|simp only[EVz,seval,↓reduceIte,EV6,EV7,hget,hne]|simp only[EVz,seval,↓reduceIte,EV6,EV7,hget]|(with_reducible intro blk hblk;(try(have hnx:=hblk;simp only[EVK]at hnx;first|(have hne:=AI hnx hne)|(have hne:=hnx))))|(with_reducible refine ak ?_ ?_)|(with_reducible refine am ?_)|(refine bB (e:=210) (L:=4) (n:=w) rfl rfl (by kernel_rfl) (by kernel_rfl) (by kernel_rfl) rfl hw4 ?_)|(refine aK hV ?_)|fail))
   all_goals exact RQ hR
  ·rw[hz]at hR hV
   unfold dM at hV
   unfold cU at hR
   (repeat' (first|(with_reducible first|refine ab hO ?_|refine ab hW ?_|refine ab hL ?_)|simp only[EVz,seval,↓reduceIte,EV6,EV7,hget,hne]|simp only[EVz,seval,↓reduceIte,EV6,EV7,hget]|(with_reducible intro blk hblk;(try(have hnx:=hblk;simp only[EVK]at hnx;first|(have hne:=AI hnx hne)|(have hne:=hnx))))|(with_reducible refine ak ?_ ?_)|(with_reducible refine am ?_)|(refine bB (e:=210) (L:=4) (n:=w) rfl rfl (by kernel_rfl) (by kernel_rfl) (by kernel_rfl) rfl hw4 ?_)|(refine aK hV ?_)|fail))
   all_goals exact RQ hR
 ·rw[if_pos h]at hR
  unfold cU at hR
  (repeat' (first|(with_reducible (refine ae (λh=>?_) (λh=>?_))<;>(try simp only[Da,Db,Dc,Dw,De,Df,Dg,Dh]at h))|(with_reducible first|refine ab hO ?_|refine ab hW ?_)|simp only[EVz,seval,↓reduceIte,EV6,EV7,hne]|simp only[EVz,seval,↓reduceIte,EV6,EV7]|(with_reducible intro blk hblk;(try(have hnx:=hblk;simp only[EVK]at hnx;first|(have hne:=AI hnx hne)|(have hne:=hnx))))|(with_reducible refine ak ?_ ?_)|(exfalso;omega)|fail))
  all_goals exact RQ hR
theorem under_eq (u:U) (i t:Idd):jZ u i t=(decide (t≠i)&&decide (i∈anc t u)):=by
 unfold jZ anc
 congr 1
 rw[Bool.eq_iff_iff,any_eq_true,decide_eq_true_eq,mem_reverse,mem_map]
 constructor
 ·rintro⟨y,hy,he⟩;exact⟨y,hy,of_decide_eq_true he⟩
 ·rintro⟨y,hy,he⟩;exact⟨y,hy,decide_eq_true he⟩
set_option maxHeartbeats 4000000 in
theorem f162 (u:U) (i t:Idd) (wh:Int) (hs:u.Short) (hN:u.flat.length<=1024) (hn:u.ids.Nodup) (hk:∀i q,aN i u=some q->q.2.2<1000000) (hki:∀q,spot u t wh=some q->q.2<1000000) (hi:i∈u.ids) (ht:t∈u.ids) (h0:0<=wh) (h3:wh<=3):
  Pure G Tryz.prog 162 [.agg u.cs,.agg i.cs,.agg t.cs,.int .i64 wh] (dM (fk u i t wh)):=by
 have hP:=f104 G i u hs hn
 have hA:=f165 G t u hs.1
 have hC:=f93 G (anc t u) i (by
  unfold anc
  rw[length_reverse,length_map,length_dropLast]
  have:=el t u
  omega)
 have hL:=f209 G
 have hV:=lV G u t wh h0 h3 hs ht hn (hk t)
 have hun:=under_eq u i t
 unfold km at hP
 unfold fk
 rw[hun]
 obtain⟨w,rfl⟩:=Int.eq_ofNat_of_zero_le h0
 have hw4:w<4:=by omega
 have hget:=nQ w hw4
 obtain⟨f,hf⟩:∃f,leadV (w:Int)=f:=⟨_,rfl⟩
 rw[hf]at hV hget
 obtain⟨A,hAe⟩:∃A,anc t u=A:=⟨_,rfl⟩
 rw[hAe]at hA hC ⊢
 obtain⟨z,hz⟩:∃z,spot u t w=z:=⟨_,rfl⟩
 rw[hz]at hki hV ⊢
 have hko:=hk i
 obtain⟨y,hy⟩:∃y,aN i u=y:=⟨_,rfl⟩
 rw[hy]at hP hko ⊢
 clear hy hz hAe hf hun hk hn hN hs
 simp only[Idd.cs]at hV hC hA hP
 refine Pure.w c162 λR hR=>?_
 unfold s162 r162
 have hb:besides (w:Int)=(decide ((w:Int)=2)||decide ((w:Int)=3)):=by unfold besides;rw[Bool.decide_or]
 have hb3:(decide ((w:Int)=2)=true/\besides (w:Int)=true)\/(decide ((w:Int)=2)=false/\decide ((w:Int)=3)=true/\besides (w:Int)=true)\/(decide ((w:Int)=2)=false/\decide ((w:Int)=3)=false/\besides (w:Int)=false):=by
  rw[hb];cases decide ((w:Int)=2)<;>cases decide ((w:Int)=3)<;>simp
 rcases Classical.em (t=i)with hti|hti
 ·have e1:decide (t=i)=true:=decide_eq_true hti
  have e2:decide (t≠i)=false:=decide_eq_false (λh=>h hti)
  have e2':(!decide (t=i))=false:=by rw[e1];rfl
  rcases y with _|⟨own,d,j⟩
  ·rcases hb3 with⟨b1,b2⟩|⟨b1,b2,b3⟩|⟨b1,b2,b3⟩
   ·(repeat' (first|(with_reducible refine ab hP ?_)|simp only[EVz,seval,↓reduceIte,EV6,EV7,ai,e1,e2,e2',b1,hne]|simp only[EVz,seval,↓reduceIte,EV6,EV7,ai,e1,e2,e2',b1]|(with_reducible intro blk hblk;(try(have hnx:=hblk;simp only[EVK]at hnx;first|(have hne:=AI hnx hne)|(have hne:=hnx))))|fail))
    all_goals exact RQ hR
   ·(repeat' (first|(with_reducible refine ab hP ?_)|simp only[EVz,seval,↓reduceIte,EV6,EV7,ai,e1,e2,e2',b1,b2,hne]|simp only[EVz,seval,↓reduceIte,EV6,EV7,ai,e1,e2,e2',b1,b2]|(with_reducible intro blk hblk;(try(have hnx:=hblk;simp only[EVK]at hnx;first|(have hne:=AI hnx hne)|(have hne:=hnx))))|fail))
    all_goals exact RQ hR
   ·(repeat' (first|(with_reducible refine ab hP ?_)|simp only[EVz,seval,↓reduceIte,EV6,EV7,ai,e1,e2,e2',b1,b2,hne]|simp only[EVz,seval,↓reduceIte,EV6,EV7,ai,e1,e2,e2',b1,b2]|(with_reducible intro blk hblk;(try(have hnx:=hblk;simp only[EVK]at hnx;first|(have hne:=AI hnx hne)|(have hne:=hnx))))|fail))
    all_goals exact RQ hR
  ·simp only[e2,Bool.false_and,Bool.false_eq_true,false_or]at hR
   rcases hb3 with⟨b1,b2⟩|⟨b1,b2,b3⟩|⟨b1,b2,b3⟩
   ·rw[if_neg (by rw[b2];simp),if_pos hti]at hR
    (repeat' (first|(with_reducible refine ab hP ?_)|simp only[EVz,seval,↓reduceIte,EV6,EV7,ai,e1,e2,e2',b1,hne]|simp only[EVz,seval,↓reduceIte,EV6,EV7,ai,e1,e2,e2',b1]|(with_reducible intro blk hblk;(try(have hnx:=hblk;simp only[EVK]at hnx;first|(have hne:=AI hnx hne)|(have hne:=hnx))))|fail))
    all_goals exact RQ hR
   ·rw[if_neg (by rw[b3];simp),if_pos hti]at hR
    (repeat' (first|(with_reducible refine ab hP ?_)|simp only[EVz,seval,↓reduceIte,EV6,EV7,ai,e1,e2,e2',b1,b2,hne]|simp only[EVz,seval,↓reduceIte,EV6,EV7,ai,e1,e2,e2',b1,b2]|(with_reducible intro blk hblk;(try(have hnx:=hblk;simp only[EVK]at hnx;first|(have hne:=AI hnx hne)|(have hne:=hnx))))|fail))
    all_goals exact RQ hR
   ·rw[if_pos ⟨hti,b3⟩]at hR
    (repeat' (first|(with_reducible refine ab hP ?_)|simp only[EVz,seval,↓reduceIte,EV6,EV7,ai,e1,e2,e2',b1,b2,hne]|simp only[EVz,seval,↓reduceIte,EV6,EV7,ai,e1,e2,e2',b1,b2]|(with_reducible intro blk hblk;(try(have hnx:=hblk;simp only[EVK]at hnx;first|(have hne:=AI hnx hne)|(have hne:=hnx))))|fail))
    all_goals exact RQ hR
 ·have e1:decide (t=i)=false:=decide_eq_false hti
  have e2:decide (t≠i)=true:=decide_eq_true hti
  have e2':(!decide (t=i))=true:=by rw[e1];rfl
  rcases y with _|⟨own,d,j⟩
  ·obtain⟨bb,hbb⟩:∃bb,decide (i∈A)=bb:=⟨_,rfl⟩
   rw[hbb]at hC
   rcases hb3 with⟨b1,b2⟩|⟨b1,b2,b3⟩|⟨b1,b2,b3⟩
   ·(repeat' (first|(with_reducible first|refine ab hP ?_|refine ab hA ?_|refine ab hC ?_)|simp only[EVz,seval,↓reduceIte,EV6,EV7,ai,e1,e2,e2',b1,hne]|simp only[EVz,seval,↓reduceIte,EV6,EV7,ai,e1,e2,e2',b1]|(with_reducible intro blk hblk;(try(have hnx:=hblk;simp only[EVK]at hnx;first|(have hne:=AI hnx hne)|(have hne:=hnx))))|fail))
    all_goals exact RQ hR
   ·(repeat' (first|(with_reducible first|refine ab hP ?_|refine ab hA ?_|refine ab hC ?_)|simp only[EVz,seval,↓reduceIte,EV6,EV7,ai,e1,e2,e2',b1,b2,hne]|simp only[EVz,seval,↓reduceIte,EV6,EV7,ai,e1,e2,e2',b1,b2]|(with_reducible intro blk hblk;(try(have hnx:=hblk;simp only[EVK]at hnx;first|(have hne:=AI hnx hne)|(have hne:=hnx))))|fail))
    all_goals exact RQ hR
   ·(repeat' (first|(with_reducible first|refine ab hP ?_|refine ab hA ?_|refine ab hC ?_)|simp only[EVz,seval,↓reduceIte,EV6,EV7,ai,e1,e2,e2',b1,b2,hne]|simp only[EVz,seval,↓reduceIte,EV6,EV7,ai,e1,e2,e2',b1,b2]|(with_reducible intro blk hblk;(try(have hnx:=hblk;simp only[EVK]at hnx;first|(have hne:=AI hnx hne)|(have hne:=hnx))))|fail))
    all_goals exact RQ hR
  ·simp only[e2,Bool.true_and,hti,false_and,or_false,if_false]at hR
   cases hbb:decide (i∈A)with
   |true=>
    rw[hbb]at hC hR
    rw[if_pos rfl]at hR
    rcases hb3 with⟨b1,b2⟩|⟨b1,b2,b3⟩|⟨b1,b2,b3⟩
    ·(repeat' (first|(with_reducible first|refine ab hP ?_|refine ab hA ?_|refine ab hC ?_)|simp only[EVz,seval,↓reduceIte,EV6,EV7,ai,e1,e2,e2',b1,hne]|simp only[EVz,seval,↓reduceIte,EV6,EV7,ai,e1,e2,e2',b1]|(with_reducible intro blk hblk;(try(have hnx:=hblk;simp only[EVK]at hnx;first|(have hne:=AI hnx hne)|(have hne:=hnx))))|fail))
     all_goals exact RQ hR
    ·(repeat' (first|(with_reducible first|refine ab hP ?_|refine ab hA ?_|refine ab hC ?_)|simp only[EVz,seval,↓reduceIte,EV6,EV7,ai,e1,e2,e2',b1,b2,hne]|simp only[EVz,seval,↓reduceIte,EV6,EV7,ai,e1,e2,e2',b1,b2]|(with_reducible intro blk hblk;(try(have hnx:=hblk;simp only[EVK]at hnx;first|(have hne:=AI hnx hne)|(have hne:=hnx))))|fail))
     all_goals exact RQ hR
    ·(repeat' (first|(with_reducible first|refine ab hP ?_|refine ab hA ?_|refine ab hC ?_)|simp only[EVz,seval,↓reduceIte,EV6,EV7,ai,e1,e2,e2',b1,b2,hne]|simp only[EVz,seval,↓reduceIte,EV6,EV7,ai,e1,e2,e2',b1,b2]|(with_reducible intro blk hblk;(try(have hnx:=hblk;simp only[EVK]at hnx;first|(have hne:=AI hnx hne)|(have hne:=hnx))))|fail))
     all_goals exact RQ hR
   |false=>
    rw[hbb]at hC hR
    rw[if_neg (by simp)]at hR
    rcases z with _|⟨q,k⟩
    ·unfold dM at hV
     rcases hb3 with⟨b1,b2⟩|⟨b1,b2,b3⟩|⟨b1,b2,b3⟩
     ·(repeat' (first|(with_reducible first|refine ab hP ?_|refine ab hA ?_|refine ab hC ?_|refine ab hL ?_)|simp only[EVz,seval,↓reduceIte,EV6,EV7,ai,e1,e2,e2',b1,hget,hne]|simp only[EVz,seval,↓reduceIte,EV6,EV7,ai,e1,e2,e2',b1,hget]|(with_reducible intro blk hblk;(try(have hnx:=hblk;simp only[EVK]at hnx;first|(have hne:=AI hnx hne)|(have hne:=hnx))))|(with_reducible refine ak ?_ ?_)|(with_reducible refine am ?_)|(refine bB (e:=210) (L:=4) (n:=w) rfl rfl (by kernel_rfl) (by kernel_rfl) (by kernel_rfl) rfl hw4 ?_)|(refine aK hV ?_)|fail))
      all_goals exact RQ hR
     ·(repeat' (first|(with_reducible first|refine ab hP ?_|refine ab hA ?_|refine ab hC ?_|refine ab hL ?_)|simp only[EVz,seval,↓reduceIte,EV6,EV7,ai,e1,e2,e2',b1,b2,hget,hne]|simp only[EVz,seval,↓reduceIte,EV6,EV7,ai,e1,e2,e2',b1,b2,hget]|(with_reducible intro blk hblk;(try(have hnx:=hblk;simp only[EVK]at hnx;first|(have hne:=AI hnx hne)|(have hne:=hnx))))|(with_reducible refine ak ?_ ?_)|(with_reducible refine am ?_)|(refine bB (e:=210) (L:=4) (n:=w) rfl rfl (by kernel_rfl) (by kernel_rfl) (by kernel_rfl) rfl hw4 ?_)|(refine aK hV ?_)|fail))
      all_goals exact RQ hR
     ·(repeat' (first|(with_reducible first|refine ab hP ?_|refine ab hA ?_|refine ab hC ?_|refine ab hL ?_)|simp only[EVz,seval,↓reduceIte,EV6,EV7,ai,e1,e2,e2',b1,b2,hget,hne]|simp only[EVz,seval,↓reduceIte,EV6,EV7,ai,e1,e2,e2',b1,b2,hget]|(with_reducible intro blk hblk;(try(have hnx:=hblk;simp only[EVK]at hnx;first|(have hne:=AI hnx hne)|(have hne:=hnx))))|(with_reducible refine ak ?_ ?_)|(with_reducible refine am ?_)|(refine bB (e:=210) (L:=4) (n:=w) rfl rfl (by kernel_rfl) (by kernel_rfl) (by kernel_rfl) rfl hw4 ?_)|(refine aK hV ?_)|fail))
      all_goals exact RQ hR
    ·unfold dM at hV
     have hkk:=hki _ rfl
     simp only at hkk
     simp only[Option.map_some]at hR
     cases q1:decide (q=own.id)with
     |false=>
      have q1':=of_decide_eq_false q1
      rw[if_neg (λh=>q1' h.1)]at hR
      rcases hb3 with⟨b1,b2⟩|⟨b1,b2,b3⟩|⟨b1,b2,b3⟩
      ·(repeat' (first|(with_reducible first|refine ab hP ?_|refine ab hA ?_|refine ab hC ?_|refine ab hL ?_)|simp only[EVz,seval,↓reduceIte,EV6,EV7,ai,e1,e2,e2',b1,hget,q1,hne]|simp only[EVz,seval,↓reduceIte,EV6,EV7,ai,e1,e2,e2',b1,hget,q1]|(with_reducible intro blk hblk;(try(have hnx:=hblk;simp only[EVK]at hnx;first|(have hne:=AI hnx hne)|(have hne:=hnx))))|(with_reducible refine ak ?_ ?_)|(with_reducible refine am ?_)|(refine bB (e:=210) (L:=4) (n:=w) rfl rfl (by kernel_rfl) (by kernel_rfl) (by kernel_rfl) rfl hw4 ?_)|(refine aK hV ?_)|fail))
       all_goals exact RQ hR
      ·(repeat' (first|(with_reducible first|refine ab hP ?_|refine ab hA ?_|refine ab hC ?_|refine ab hL ?_)|simp only[EVz,seval,↓reduceIte,EV6,EV7,ai,e1,e2,e2',b1,b2,hget,q1,hne]|simp only[EVz,seval,↓reduceIte,EV6,EV7,ai,e1,e2,e2',b1,b2,hget,q1]|(with_reducible intro blk hblk;(try(have hnx:=hblk;simp only[EVK]at hnx;first|(have hne:=AI hnx hne)|(have hne:=hnx))))|(with_reducible refine ak ?_ ?_)|(with_reducible refine am ?_)|(refine bB (e:=210) (L:=4) (n:=w) rfl rfl (by kernel_rfl) (by kernel_rfl) (by kernel_rfl) rfl hw4 ?_)|(refine aK hV ?_)|fail))
       all_goals exact RQ hR
      ·(repeat' (first|(with_reducible first|refine ab hP ?_|refine ab hA ?_|refine ab hC ?_|refine ab hL ?_)|simp only[EVz,seval,↓reduceIte,EV6,EV7,ai,e1,e2,e2',b1,b2,hget,q1,hne]|simp only[EVz,seval,↓reduceIte,EV6,EV7,ai,e1,e2,e2',b1,b2,hget,q1]|(with_reducible intro blk hblk;(try(have hnx:=hblk;simp only[EVK]at hnx;first|(have hne:=AI hnx hne)|(have hne:=hnx))))|(with_reducible refine ak ?_ ?_)|(with_reducible refine am ?_)|(refine bB (e:=210) (L:=4) (n:=w) rfl rfl (by kernel_rfl) (by kernel_rfl) (by kernel_rfl) rfl hw4 ?_)|(refine aK hV ?_)|fail))
       all_goals exact RQ hR
     |true=>
      have q1':=of_decide_eq_true q1
      cases q2:decide ((j:Int)<(k:Int))with
      |false=>
       have q2':=of_decide_eq_false q2
       rw[if_neg (λh=>q2' (by omega))]at hR
       rcases hb3 with⟨b1,b2⟩|⟨b1,b2,b3⟩|⟨b1,b2,b3⟩
       ·(repeat' (first|(with_reducible first|refine ab hP ?_|refine ab hA ?_|refine ab hC ?_|refine ab hL ?_)|simp only[EVz,seval,↓reduceIte,EV6,EV7,ai,e1,e2,e2',b1,hget,q1,q2,hne]|simp only[EVz,seval,↓reduceIte,EV6,EV7,ai,e1,e2,e2',b1,hget,q1,q2]|(with_reducible intro blk hblk;(try(have hnx:=hblk;simp only[EVK]at hnx;first|(have hne:=AI hnx hne)|(have hne:=hnx))))|(with_reducible refine ak ?_ ?_)|(with_reducible refine am ?_)|(refine bB (e:=210) (L:=4) (n:=w) rfl rfl (by kernel_rfl) (by kernel_rfl) (by kernel_rfl) rfl hw4 ?_)|(refine aK hV ?_)|fail))
        all_goals exact RQ hR
       ·(repeat' (first|(with_reducible first|refine ab hP ?_|refine ab hA ?_|refine ab hC ?_|refine ab hL ?_)|simp only[EVz,seval,↓reduceIte,EV6,EV7,ai,e1,e2,e2',b1,b2,hget,q1,q2,hne]|simp only[EVz,seval,↓reduceIte,EV6,EV7,ai,e1,e2,e2',b1,b2,hget,q1,q2]|(with_reducible intro blk hblk;(try(have hnx:=hblk;simp only[EVK]at hnx;first|(have hne:=AI hnx hne)|(have hne:=hnx))))|(with_reducible refine ak ?_ ?_)|(with_reducible refine am ?_)|(refine bB (e:=210) (L:=4) (n:=w) rfl rfl (by kernel_rfl) (by kernel_rfl) (by kernel_rfl) rfl hw4 ?_)|(refine aK hV ?_)|fail))
        all_goals exact RQ hR
       ·(repeat' (first|(with_reducible first|refine ab hP ?_|refine ab hA ?_|refine ab hC ?_|refine ab hL ?_)|simp only[EVz,seval,↓reduceIte,EV6,EV7,ai,e1,e2,e2',b1,b2,hget,q1,q2,hne]|simp only[EVz,seval,↓reduceIte,EV6,EV7,ai,e1,e2,e2',b1,b2,hget,q1,q2]|(with_reducible intro blk hblk;(try(have hnx:=hblk;simp only[EVK]at hnx;first|(have hne:=AI hnx hne)|(have hne:=hnx))))|(with_reducible refine ak ?_ ?_)|(with_reducible refine am ?_)|(refine bB (e:=210) (L:=4) (n:=w) rfl rfl (by kernel_rfl) (by kernel_rfl) (by kernel_rfl) rfl hw4 ?_)|(refine aK hV ?_)|fail))
        all_goals exact RQ hR
      |true=>
       have q2':=of_decide_eq_true q2
       rw[if_pos ⟨q1',by omega⟩]at hR
       have ew:IntKind.i64.wrap ((k:Int)-1)=((k-1:Nat):Int):=by rw[au (by omega) (by omega)];omega
       rcases hb3 with⟨b1,b2⟩|⟨b1,b2,b3⟩|⟨b1,b2,b3⟩
       ·(repeat' (first|(with_reducible first|refine ab hP ?_|refine ab hA ?_|refine ab hC ?_|refine ab hL ?_)|simp only[EVz,seval,↓reduceIte,EV6,EV7,ai,e1,e2,e2',b1,hget,q1,q2,ew,hne]|simp only[EVz,seval,↓reduceIte,EV6,EV7,ai,e1,e2,e2',b1,hget,q1,q2,ew]|(with_reducible intro blk hblk;(try(have hnx:=hblk;simp only[EVK]at hnx;first|(have hne:=AI hnx hne)|(have hne:=hnx))))|(with_reducible refine ak ?_ ?_)|(with_reducible refine am ?_)|(refine bB (e:=210) (L:=4) (n:=w) rfl rfl (by kernel_rfl) (by kernel_rfl) (by kernel_rfl) rfl hw4 ?_)|(refine aK hV ?_)|fail))
        all_goals exact RQ hR
       ·(repeat' (first|(with_reducible first|refine ab hP ?_|refine ab hA ?_|refine ab hC ?_|refine ab hL ?_)|simp only[EVz,seval,↓reduceIte,EV6,EV7,ai,e1,e2,e2',b1,b2,hget,q1,q2,ew,hne]|simp only[EVz,seval,↓reduceIte,EV6,EV7,ai,e1,e2,e2',b1,b2,hget,q1,q2,ew]|(with_reducible intro blk hblk;(try(have hnx:=hblk;simp only[EVK]at hnx;first|(have hne:=AI hnx hne)|(have hne:=hnx))))|(with_reducible refine ak ?_ ?_)|(with_reducible refine am ?_)|(refine bB (e:=210) (L:=4) (n:=w) rfl rfl (by kernel_rfl) (by kernel_rfl) (by kernel_rfl) rfl hw4 ?_)|(refine aK hV ?_)|fail))
        all_goals exact RQ hR
       ·(repeat' (first|(with_reducible first|refine ab hP ?_|refine ab hA ?_|refine ab hC ?_|refine ab hL ?_)|simp only[EVz,seval,↓reduceIte,EV6,EV7,ai,e1,e2,e2',b1,b2,hget,q1,q2,ew,hne]|simp only[EVz,seval,↓reduceIte,EV6,EV7,ai,e1,e2,e2',b1,b2,hget,q1,q2,ew]|(with_reducible intro blk hblk;(try(have hnx:=hblk;simp only[EVK]at hnx;first|(have hne:=AI hnx hne)|(have hne:=hnx))))|(with_reducible refine ak ?_ ?_)|(with_reducible refine am ?_)|(refine bB (e:=210) (L:=4) (n:=w) rfl rfl (by kernel_rfl) (by kernel_rfl) (by kernel_rfl) rfl hw4 ?_)|(refine aK hV ?_)|fail))
        all_goals exact RQ hR
end
theorem dest_ins (u:U) (x:Itm) (h:x.kind=0):dest u x=insPt u x.at_ x.wh:=by
 unfold dest insPt
 split
 ·rfl
 ·rfl
section
variable (G:Glob)
set_option maxHeartbeats 4000000 in
theorem f88 (u:U) (x:Itm) (hs:u.Short) (hN:u.flat.length<=1024) (hn:u.ids.Nodup) (hk:∀i q,aN i u=some q->q.2.2<1000000) (hki:∀i w q,spot u i w=some q->q.2<1000000) (hk0:x.kind=0\/x.kind=6) (h0:0<=x.wh) (h3:x.wh<=3) (hp:x.at_.length<1000000) (hp2:x.to_.length<1000000):
  Pure G Tryz.prog 88 [.agg u.cs,.agg x.cs] (cU (dest u x)):=by
 have hO:=f39 G u x.at_ hs.1 hN hp
 have hO2:=f39 G u x.to_ hs.1 hN hp2
 have hI:=f160 G u x.at_ x.wh hs hN hn hk hp h0 h3
 have hW:=f161 G x.wh
 have e1:inR x.wh 0 3=true:=by simp[inR];omega
 rw[e1]at hW
 rw[Itm.cs_eq x]
 refine Pure.w c88 λR hR=>?_
 unfold s88 r88
 rcases hk0 with h|h
 ·rw[dest_ins u x h]at hR
  have e2:decide (x.kind=0)=true:=decide_eq_true h
  obtain⟨z,hz⟩:∃z,insPt u x.at_ x.wh=z:=⟨_,rfl⟩
  rw[hz]at hI hR
  unfold cU at hI hR
  rcases z with⟨q,k⟩|e
  ·(repeat' (first|(with_reducible refine ab hI ?_)|simp only[EVz,seval,↓reduceIte,EV6,EV7,e2,hne]|simp only[EVz,seval,↓reduceIte,EV6,EV7,e2]|(with_reducible intro blk hblk;(try(have hnx:=hblk;simp only[EVK]at hnx;(have hne:=hnx))))|fail))
   all_goals exact RQ hR
  ·(repeat' (first|(with_reducible refine ab hI ?_)|simp only[EVz,seval,↓reduceIte,EV6,EV7,e2,hne]|simp only[EVz,seval,↓reduceIte,EV6,EV7,e2]|(with_reducible intro blk hblk;(try(have hnx:=hblk;simp only[EVK]at hnx;(have hne:=hnx))))|fail))
   all_goals exact RQ hR
 ·have e2:decide (x.kind=0)=false:=decide_eq_false (by omega)
  have e3:decide (x.kind=6)=true:=decide_eq_true h
  have e3':decide (x.kind≠6)=false:=decide_eq_false (by omega)
  unfold gx at hO hO2
  unfold dest at hR
  rw[if_neg (show ¬x.kind=0 by omega)]at hR
  have hid:=bU (u:=u) (p:=x.at_)
  have hid2:=bU (u:=u) (p:=x.to_)
  obtain⟨⟨i,e⟩,hie⟩:∃z,one u x.at_=z:=⟨_,rfl⟩
  obtain⟨⟨t,e'⟩,hie'⟩:∃z,one u x.to_=z:=⟨_,rfl⟩
  rw[hie]at hO hid hR
  rw[hie']at hO2 hid2 hR
  simp only at hO hO2 hid hid2 hR
  rcases Classical.em (e=0)with g|g
  ·subst g
   rw[if_neg (by simp)]at hR
   rcases Classical.em (e'=0)with g'|g'
   ·subst g'
    rw[if_neg (by simp)]at hR
    have hGo:=f162 G u i t x.wh hs hN hn hk (hki t x.wh) (hid rfl) (hid2 rfl) h0 h3
    simp only[Idd.cs]at hGo
    obtain⟨z,hz⟩:∃z,fk u i t x.wh=z:=⟨_,rfl⟩
    rw[hz]at hGo hR
    unfold dM at hGo
    unfold cU at hR
    rcases z with _|⟨q,k⟩
    ·(repeat' (first|(with_reducible first|refine ab hO ?_|refine ab hO2 ?_|refine ab hW ?_|refine ab hGo ?_)|simp only[EVz,seval,↓reduceIte,EV6,EV7,e2,e3,e3',hne]|simp only[EVz,seval,↓reduceIte,EV6,EV7,e2,e3,e3']|(with_reducible intro blk hblk;(try(have hnx:=hblk;simp only[EVK]at hnx;first|(have hne:=AI hnx hne)|(have hne:=hnx))))|fail))
     all_goals exact RQ hR
    ·(repeat' (first|(with_reducible first|refine ab hO ?_|refine ab hO2 ?_|refine ab hW ?_|refine ab hGo ?_)|simp only[EVz,seval,↓reduceIte,EV6,EV7,e2,e3,e3',hne]|simp only[EVz,seval,↓reduceIte,EV6,EV7,e2,e3,e3']|(with_reducible intro blk hblk;(try(have hnx:=hblk;simp only[EVK]at hnx;first|(have hne:=AI hnx hne)|(have hne:=hnx))))|(with_reducible refine ak ?_ ?_)|(with_reducible refine am ?_)|fail))
     all_goals exact RQ hR
   ·rw[if_pos g']at hR
    have g2:decide (e'=0)=false:=decide_eq_false g'
    unfold cU at hR
    (repeat' (first|(with_reducible (refine ae (λh=>?_) (λh=>?_))<;>(try simp only[Da,Db,Dc,Dw,De,Df,Dg,Dh]at h))|(with_reducible first|refine ab hO ?_|refine ab hO2 ?_|refine ab hW ?_)|simp only[EVz,seval,↓reduceIte,EV6,EV7,e2,e3,e3',g',hne]|simp only[EVz,seval,↓reduceIte,EV6,EV7,e2,e3,e3',g']|(with_reducible intro blk hblk;(try(have hnx:=hblk;simp only[EVK]at hnx;first|(have hne:=AI hnx hne)|(have hne:=hnx))))|(exfalso;omega)|fail))
    all_goals exact RQ hR
  ·rw[if_pos g]at hR
   unfold cU at hR
   (repeat' (first|(with_reducible (refine ae (λh=>?_) (λh=>?_))<;>(try simp only[Da,Db,Dc,Dw,De,Df,Dg,Dh]at h))|(with_reducible first|refine ab hO ?_|refine ab hW ?_)|simp only[EVz,seval,↓reduceIte,EV6,EV7,e2,e3,e3',g,hne]|simp only[EVz,seval,↓reduceIte,EV6,EV7,e2,e3,e3',g]|(with_reducible intro blk hblk;(try(have hnx:=hblk;simp only[EVK]at hnx;first|(have hne:=AI hnx hne)|(have hne:=hnx))))|(exfalso;omega)|fail))
   all_goals exact RQ hR
end
end Go.Av
