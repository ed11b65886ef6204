/-
  LINT, 38: the findings for an item.
-/
import Derived.Test.YtjolkfjccojnnaaGreatDoorXL34toXL53
import Derived.Test.YtjolkfjccojnnaaGreatDoorXL28toXL51
namespace Go.Av
open Go Go.RowKit Go.Proofs List
set_option linter.unusedSimpArgs false
set_option linter.unusedVariables false
theorem o8 (b:Bool) (f:Fnd):(optF b f).length<=1:=by unfold optF;split<;>simp
theorem qx (x:Itm):(n8 x).length<=5:=by
 unfold n8
 simp only[length_append]
 have h1:=o8 (o7 x) (fw 9 tBook)
 have h2:=o8 (o9 x) (fw 9 qA)
 have h3:=o8 (qm x) (fw 9 tSelf)
 have h4:=o8 (rule4 x) (fw 11 n0)
 have h5:=o8 (qk x) (fw 10 ni)
 omega
theorem one_kind {x y:Itm} (h:x.may=true) (hb:x.by_=[y]) (hk:x.kind=11):y.kind<=6:=by
 obtain⟨_,_,_,ho⟩:=qU h
 unfold Itm.own at ho
 rw[if_neg (by omega),if_neg (by omega),if_neg (by omega),if_neg (by omega),if_neg (by omega),if_neg (by omega),if_neg (by omega),if_neg (by omega),if_pos hk]at ho
 simp only[Bool.and_eq_true]at ho
 have hm:=ho.2.2
 rw[hb,Itm.mayOne_cons]at hm
 unfold inR at hm
 simp only[Bool.and_eq_true,decide_eq_true_eq]at hm
 exact hm.1.2.2
theorem qQ (x:Itm):x.finds.length<=10:=by
 rw[Itm.finds_eq]
 split
 ·rename_i hm
  have h1:=qx x
  by_cases hk:x.kind=11
  ·obtain⟨y,hy,hym⟩:=may_one hm hk
   have hyk:=one_kind hm hy hk
   have h2:=qx y
   rw[hy,Itm.findss_cons,Itm.findss_nil,Itm.finds_eq,if_pos hym,may_by hym (by omega),Itm.findss_nil]
   simp only[length_append,length_nil]
   omega
  ·rw[may_by hm hk,Itm.findss_nil,append_nil];omega
 ·simp
structure Fl where
 why:Int
 text:List UInt8
 fn:Nat
 yes:Bool
def Fl.row (p:Fl):List AV:=n7 p.why p.text p.fn
def flOf (x:Itm):List Fl:=[⟨9,tBook,75,o7 x⟩,⟨9,qA,78,o9 x⟩,⟨9,tSelf,82,qm x⟩,⟨11,n0,84,rule4 x⟩,⟨10,ni,86,qk x⟩]
def flF (l:List Fl):List Fnd:=l.flatMap λp=>optF p.yes (fw p.why p.text)
theorem flF_of (x:Itm):flF (flOf x)=n8 x:=by simp[flF,flOf,n8]
theorem rc (p:Fl) (l:List Fl):flF (p::l)=optF p.yes (fw p.why p.text)++flF l:=by simp[flF]
theorem fl_rows (x:Itm):(flOf x).map Fl.row=qp:=rfl
theorem qz (p:Fl):p.row=[.int .i64 p.why,.str p.text,.sc (.func (.func p.fn) #[] #[])]:=rfl
theorem fw_cs (w:Int) (t:List UInt8):(fw w t).cs=[.int .i64 0,.int .i64 0,.int .i64 0,.int .i64 0,.int .i64 w,.str t]:=rfl
section
variable (G:Glob) (hG:GOk G)
include hG
theorem fl_calls (x:Itm) (q:x.Short1):∀p∈flOf x,Pure G Tryz.prog p.fn [.agg x.cs] (.bool p.yes):=by
 intro p hp
 simp only[flOf,mem_cons,not_mem_nil,or_false]at hp
 rcases hp with rfl|rfl|rfl|rfl|rfl
 ·exact f75 G x
 ·exact f78 G hG x q
 ·exact f82 G x q
 ·exact f84 G x q
 ·exact f86 G x q
set_option maxHeartbeats 2000000 in
theorem f13o:∀x:Itm,x.Shorts->aj G Tryz.prog 13 [.agg x.cs] [] (Opn 50 6 (x.finds.map Fnd.cs)):=by
 refine Itm.ind λx ih hs=>?_
 obtain⟨q,hby⟩:=(Itm.Shorts_eq x).1 hs
 have hV:=f35 G hG x hs
 have hF:=f38 G
 have hcalls:=fl_calls G hG x q
 have hbl:x.by_.length<1000000000000000000:=((Itm.fit_eq x).1 q.fit).2.2.2.2.2.1
 have hfl:=qQ x
 rw[Itm.finds_eq]at hfl
 refine aj.wo c13 λR hR=>?_
 unfold s13 r13
 rw[Itm.finds_eq]at hR
 by_cases hm:x.may=true
 ·rw[hm]at hV
  rw[if_pos hm]at hR hfl
  rw[length_append]at hfl
  rw[←fl_rows x]at hF
  (repeat' (first|(with_reducible (first|refine ae (λh=>?_) (λh=>?_)|refine ag (λh=>?_) (λh=>?_)|refine aa (λh=>?_) (λh=>?_))<;>(try simp only[Da,Db,Dc,Dw,De,Df,Dg,Dh]at h))|(with_reducible refine AI (by omega) ?_)|(with_reducible first|refine ab hV ?_|refine ab hF ?_)|simp only[EVz,seval,↓reduceIte,EV6,EV7]|(with_reducible intro blk hblk;(try(have hnx:=hblk;simp only[EVK]at hnx;first|(have hne:=AI hnx hne)|(have hne:=hnx))))|(with_reducible refine ak ?_ ?_)|(with_reducible refine am ?_)|(exfalso;omega)))
  refine Zq (ι:=Option Nat×List Fnd) (flOf x) (λi r c=>n8 x=c.2++flF r) (λi c=>[(1,.ref x.cs),(3,.own c.1 50 6 (c.2.map Fnd.cs)),(13,.lst 3 ((flOf x).map Fl.row)),(14,.int .i64 5),(15,.int .i64 i)])
   (λi c=>tokS c.1 50 (c.2.length*6)) (none,[]) (by rw[flF_of];rfl) (Weak.of (by simp[cQ,Env.get,AVle,aP,flOf]) (SubN.refl _)) (by simp[flOf]) (λi p r c hok hx hw=>?_) (λc hok hn=>?_)
  ·have hpc:=hcalls p hx.mem
   have hl5:=qx x
   rw[hok,rc]at hl5
   simp only[length_append]at hl5
   have hyes:decide ((i:Int)<5)=true:=hx.yes
   have hlt5:(i:Int)<5:=hx.lt'
   rw[rc]at hok
   cases hy:p.yes with
   |false=>
    rw[hy]at hpc hok
    (repeat' (first|(with_reducible (first|refine ae (λh=>?_) (λh=>?_)|refine ag (λh=>?_) (λh=>?_)|refine aa (λh=>?_) (λh=>?_))<;>(try simp only[Da,Db,Dc,Dw,De,Df,Dg,Dh]at h))|(with_reducible refine AI (by omega) ?_)|(with_reducible refine ab hpc ?_)|simp only[EVz,seval,↓reduceIte,EV6,EV7,hx.yes,hyes,hlt5,hx.le0,hx.lt',hx.get,hx.row,hw,qz,hne]|simp only[EVz,seval,↓reduceIte,EV6,EV7,hx.yes,hyes,hlt5,hx.le0,hx.lt',hx.get,hx.row,hw,qz]|(with_reducible intro blk hblk;(try(have hnx:=hblk;simp only[EVK]at hnx;first|(have hne:=AI hnx hne)|(have hne:=hnx))))|(with_reducible refine ak ?_ ?_)|(with_reducible refine am ?_)|(exfalso;omega)))
    refine af hx c (by rw[hok];rfl) (Weak.sub ⟨λq hq=>mem_cons_of_mem _ hq,λhn=>by simp only[Store.keys,map_cons,nodup_cons]at hn;exact hn.2⟩)
   |true=>
    rw[hy]at hpc hok
    (repeat' (first|(with_reducible (first|refine ae (λh=>?_) (λh=>?_)|refine ag (λh=>?_) (λh=>?_)|refine aa (λh=>?_) (λh=>?_))<;>(try simp only[Da,Db,Dc,Dw,De,Df,Dg,Dh]at h))|(with_reducible refine AI (by omega) ?_)|(with_reducible refine ab hpc ?_)|simp only[EVz,seval,↓reduceIte,EV6,EV7,hx.yes,hyes,hlt5,hx.le0,hx.lt',hx.get,hx.row,hw,qz,hne]|simp only[EVz,seval,↓reduceIte,EV6,EV7,hx.yes,hyes,hlt5,hx.le0,hx.lt',hx.get,hx.row,hw,qz]|(with_reducible intro blk hblk;(try(have hnx:=hblk;simp only[EVK]at hnx;first|(have hne:=AI hnx hne)|(have hne:=hnx))))|(with_reducible refine ak ?_ ?_)|(with_reducible refine am ?_)|(refine cV (n:=c.2.length) (m':=(c.2.length+1)*6) (by first|exact bI|exact bT (by assumption)) (by simp) rfl rfl rfl (by assumption) (by omega) (λgn=>?_))|(exfalso;omega)))
    refine af hx (gn,c.2++[fw p.why p.text]) (by rw[hok,append_assoc];rfl) (by simp only[map_append,map_cons,map_nil,fw_cs,length_append,length_cons,length_nil,Nat.zero_add];exact Weak.rfl' _ _)
  ·have hn5:decide (((flOf x).length:Int)<5)=false:=hn
   (repeat' (first|(with_reducible (first|refine ae (λh=>?_) (λh=>?_)|refine ag (λh=>?_) (λh=>?_)|refine aa (λh=>?_) (λh=>?_))<;>(try simp only[Da,Db,Dc,Dw,De,Df,Dg,Dh]at h))|(with_reducible refine AI (by omega) ?_)|simp only[EVz,seval,↓reduceIte,EV6,EV7,hn,hn5]|(with_reducible intro blk hblk;(try(have hnx:=hblk;simp only[EVK]at hnx;first|(have hne:=AI hnx hne)|(have hne:=hnx))))|(with_reducible refine ak ?_ ?_)|(with_reducible refine am ?_)|(exfalso;omega)))
   have e0:n8 x=c.2:=by rw[hok];simp[flF]
   refine Zq (ι:=Option Nat×List Fnd) x.by_ (λi r d=>n8 x++Itm.findss x.by_=d.2++Itm.findss r) (λi d=>[(3,.own d.1 50 6 (d.2.map Fnd.cs)),(33,.lst 25 (x.by_.map Itm.cs)),(34,.int .i64 x.by_.length),(35,.int .i64 i)])
    (λi d=>tokS d.1 50 (d.2.length*6)) c (by rw[e0]) (Weak.rfl' _ _) (by omega) (λi y r d hok hx hw=>?_) (λd hok hn=>?_)
   ·have hy:=(ih y hx.mem (hby y hx.mem)).lst
    have hlen:=congrArg List.length hok
    rw[Itm.findss_cons]at hok hlen
    simp only[length_append]at hlen hfl
    (repeat' (first|(with_reducible (first|refine ae (λh=>?_) (λh=>?_)|refine ag (λh=>?_) (λh=>?_)|refine aa (λh=>?_) (λh=>?_))<;>(try simp only[Da,Db,Dc,Dw,De,Df,Dg,Dh]at h))|(with_reducible refine AI (by omega) ?_)|(with_reducible refine ab hy ?_)|simp only[EVz,seval,↓reduceIte,EV6,EV7,hx.yes,hx.le0,hx.lt',hx.get,hx.row,hw]|(with_reducible intro blk hblk;(try(have hnx:=hblk;simp only[EVK]at hnx;first|(have hne:=AI hnx hne)|(have hne:=hnx))))|(with_reducible refine ak ?_ ?_)|(with_reducible refine am ?_)|(refine cH (m':=(d.2.length+y.finds.length)*6) (by first|exact bI|exact bT (by assumption)) (by simp) (by simp) (by simp;omega) (λgn=>?_))|(exfalso;omega)))
    refine af hx (gn,d.2++y.finds) (by rw[hok,append_assoc]) (by simp only[map_append,length_append];exact Weak.rfl' _ _)
   ·(repeat' (first|(with_reducible (first|refine ae (λh=>?_) (λh=>?_)|refine ag (λh=>?_) (λh=>?_)|refine aa (λh=>?_) (λh=>?_))<;>(try simp only[Da,Db,Dc,Dw,De,Df,Dg,Dh]at h))|(with_reducible refine AI (by omega) ?_)|simp only[EVz,seval,↓reduceIte,EV6,EV7,hn]|(with_reducible intro blk hblk;(try(have hnx:=hblk;simp only[EVK]at hnx;first|(have hne:=AI hnx hne)|(have hne:=hnx))))|(with_reducible refine ak ?_ ?_)|(with_reducible refine am ?_)|(exfalso;omega)))
    exact hR _ _ _ (by rw[hok,Itm.findss_nil,append_nil]) (by rw[length_map];exact SubN.refl _)
 ·have hm2:x.may=false:=by simpa using hm
  rw[hm2]at hV
  rw[if_neg hm]at hR
  (repeat' (first|(with_reducible (first|refine ae (λh=>?_) (λh=>?_)|refine ag (λh=>?_) (λh=>?_)|refine aa (λh=>?_) (λh=>?_))<;>(try simp only[Da,Db,Dc,Dw,De,Df,Dg,Dh]at h))|(with_reducible refine AI (by omega) ?_)|(with_reducible refine ab hV ?_)|simp only[EVz,seval,↓reduceIte,EV6,EV7]|(with_reducible intro blk hblk;(try(have hnx:=hblk;simp only[EVK]at hnx;first|(have hne:=AI hnx hne)|(have hne:=hnx))))|(with_reducible refine ak ?_ ?_)|(with_reducible refine am ?_)|(refine⟨[(fw 1 qJ).cs],rfl,(by simp[fw_cs]),rfl,?_⟩)|(exfalso;omega)))
  exact hR _ _ _ rfl (SubN.refl _)
theorem f13 (x:Itm) (hs:x.Shorts):Pure G Tryz.prog 13 [.agg x.cs] (.lst 6 (x.finds.map Fnd.cs)):=(f13o G hG x hs).lst
end
section
variable (G:Glob)
end
section
variable (G:Glob)
end
section
variable (G:Glob)
end
section
variable (G:Glob)
end
section
variable (G:Glob)
def qK:List AV:=[.int .i64 0,.str [],.int .i64 0,.int .i64 0,.int .i64 0,.str [],.nil]
theorem ri:Pure G Tryz.prog 55 [.agg qK] (.bool false):=by
 refine Pure.w c55 λR hR=>?_
 unfold s55 r55 qK
 (repeat' (first|(with_reducible (first|refine ae (λh=>?_) (λh=>?_)|refine ag (λh=>?_) (λh=>?_)|refine aa (λh=>?_) (λh=>?_))<;>(try simp only[Da,Db,Dc,Dw,De,Df,Dg,Dh]at h))|(with_reducible refine AI (by omega) ?_)|simp only[EVz,seval,↓reduceIte,EV6,EV7]|(with_reducible intro blk hblk;(try(have hnx:=hblk;simp only[EVK]at hnx;first|(have hne:=AI hnx hne)|(have hne:=hnx))))|(with_reducible refine ak ?_ ?_)|(with_reducible refine am ?_)|(exfalso;omega)))
 (all_goals(first|(exact RET.eq hR rfl)|rfl|(refine RET.eq hR ?_;(refine congrArg AV.bool (Bool.eq_iff_iff.2 ?_);simp only[EVB]at*;omega))|(refine RET.eq hR ?_;first|(simp only[hok,h,EVC,decide_true,decide_false];done)|(simp only[hok,EVC,decide_true,decide_false];done)|(simp only[hok,EVC,decide_true,decide_false];refine congrArg AV.bool (decide_eq_decide.2 ?_);omega)|(simp_all[];done)|(simp_all[];omega)|grind|(norm_cast at*;simp_all[];done)|(norm_cast at*;simp_all[];omega))|(refine hR _ _ (Or.inl (Or.inr ⟨rfl,?_⟩));simp[];done)|(refine hR _ _ (Or.inr ?_);simp[*,bz,aP,Itm.cs_eq,U.cs_eq,];done)|(rw[hok];simp only[h,EVC,decide_true,decide_false];done)|(rw[hok];simp only[EVC,decide_true,decide_false];done)|(simp_all[];done)|(simp_all[];omega)|grind|(norm_cast at*;simp_all[];done)|(norm_cast at*;simp_all[];omega)))
def actFnd:Fnd:=⟨-1,⟨0,0,0⟩,1,[97,99,116]⟩
theorem re:Pure G Tryz.prog 33 [.agg qK] (.lst 6 [actFnd.cs]):=by
 have hV:=ri G
 refine Pure.w c33 λR hR=>?_
 unfold s33 r33
 unfold qK at*
 (repeat' (first|(with_reducible (first|refine ae (λh=>?_) (λh=>?_)|refine ag (λh=>?_) (λh=>?_)|refine aa (λh=>?_) (λh=>?_))<;>(try simp only[Da,Db,Dc,Dw,De,Df,Dg,Dh]at h))|(with_reducible refine AI (by omega) ?_)|(with_reducible refine ab hV ?_)|simp only[EVz,seval,↓reduceIte,EV6,EV7]|(with_reducible intro blk hblk;(try(have hnx:=hblk;simp only[EVK]at hnx;first|(have hne:=AI hnx hne)|(have hne:=hnx))))|(with_reducible refine ak ?_ ?_)|(with_reducible refine am ?_)|(refine⟨[actFnd.cs],rfl,(by simp[actFnd,Fnd.cs]),rfl,?_⟩)|(exfalso;omega)))
 exact hR _ _ (Or.inl (Or.inr ⟨rfl,rfl⟩))
end
/-! ### stops and joins -/
section
variable (G:Glob)
variable (hG:GOk G)
include hG
end
theorem fV {α:Type} (p:α->Bool):∀(l:List α) (i k:Nat),l9 p l=some k->idxF p i l=((i+k:Nat):Int)
 |[],i,k,h=>by cases h
 |x::l,i,k,h=>by
  rw[l9]at h
  rw[idxF]
  cases hp:p x with
  |true=>rw[hp]at h;simp only[if_true]at h ⊢;injection h with h;subst h;rfl
  |false=>
   rw[hp]at h
   simp only[Bool.false_eq_true,if_false]at h ⊢
   obtain⟨k',h2,rfl⟩:=Option.map_eq_some_iff.1 h
   rw[fV p l (i+1) k' h2]
   omega
def km (j:Idd) (u:U):AV:=match aN j u with
 |some (p,_,k)=>.tup [.agg p.id.cs,.int .i64 k,.bool true]
 |none=>.tup [.agg [.int .i64 0,.int .i64 0,.int .i64 0],.int .i64 (-1),.bool false]
section
variable (G:Glob)
theorem f188k (σ:Store) (f:Value) (p:U->Bool) (l:List U) (hl:l.length<9000000000000000000) (hf:∀x∈l,cZ G Tryz.prog f [.agg x.cs] σ λr σ'=>r= .bool (p x)/\σ'=σ):
  aj G Tryz.prog 188 [.lst 8 (l.map U.cs),.sc f] σ λr σ'=>r= .int .i64 (idxF p 0 l)/\σ'=σ:=by
 refine aj.wk c188 λR hR=>?_
 unfold s188 r188
 (repeat' (first|(with_reducible (refine ae (λh=>?_) (λh=>?_))<;>(try simp only[Da,Db,Dc,Dw,De,Df,Dg,Dh]at h))|simp only[EVz,seval,↓reduceIte,EV6,EV7,hx.yes,hx.le0,hx.lt',hx.get,hx.row,hw]|simp only[EVz,seval,↓reduceIte,EV6,EV7,hn]|simp only[EVz,seval,↓reduceIte,EV6,EV7]|(refine af hx () ?_ (Weak.rfl' _ _))|(refine Zq l (λi r (c:Unit)=>idxF p 0 l=idxF p i r) (λi c=>[(0,.lst 8 (l.map U.cs)),(1,.sc f),(7,.int .i64 l.length),(8,.int .i64 i)]) (λ_ _=>σ) () rfl (Weak.rfl' _ _) (by omega) (λi x r c hok hx hw=>?_) (λc hok hn=>?_))|(refine eK (hf _ hx.mem) ?_)|fail))
 ·refine hR _ _ (.inl (.inl ?_)) (SubN.refl _)
  rw[hok,idxF,if_pos h]
 ·rw[hok,idxF,h];rfl
 ·refine hR _ _ (.inl (.inl ?_)) (SubN.refl _)
  rw[hok];rfl
theorem f171k (σ:Store) (f:Value) (p:U->Bool) (l:List U) (hl:l.length<9000000000000000000) (hf:∀x∈l,cZ G Tryz.prog f [.agg x.cs] σ λr σ'=>r= .bool (p x)/\σ'=σ):
  aj G Tryz.prog 171 [.lst 8 (l.map U.cs),.sc f] σ λr σ'=>r= .bool (l.any p)/\σ'=σ:=by
 refine aj.wk c171 λR hR=>?_
 unfold s171 r171
 have hI:=f188k G σ f p l hl hf
 (repeat' (first|simp only[EVz,seval,↓reduceIte,EV6,EV7]|(refine eK hI.v ?_)|fail))
 exact hR _ _ (.inl (.inl (congrArg AV.bool (eE p l 0)))) (SubN.refl _)
theorem f189 (b:Nat) (j:Idd) (u:U) (ht:u.Tame):aj G Tryz.prog 189 [.agg u.cs,.sc (.pointer (some ⟨b,0,none⟩))] [(b,.cells 23 j.cs)] λr σ'=>r= .bool (!(U.way j u).isEmpty)/\σ'=[(b,.cells 23 j.cs)]:=by
 have hW:=f73 G j u ht
 refine aj.wk c189 λR hR=>?_
 unfold s189 r189
 simp only[Idd.cs]at hW
 cases hw:U.way j u with
 |nil=>
  rw[hw]at hW hR
  simp only[gl]at hW
  (repeat' (first|(with_reducible refine ab hW ?_)|simp only[EVz,seval,↓reduceIte,EV6,EV7]|fail))
  exact hR _ _ (AVle.rfl' _) (SubN.refl _)
 |cons x l=>
  rw[hw]at hW hR
  simp only[gl,map_cons]at hW
  (repeat' (first|(with_reducible refine ab hW ?_)|simp only[EVz,seval,↓reduceIte,EV6,EV7]|(with_reducible intro blk hblk;(try(have hnx:=hblk;simp only[EVK]at hnx;(have hne:=hnx))))|fail))
  have:=hblk (by simp)
  subst this
  exact hR _ _ (AVle.rfl' _) (SubN.refl _)
theorem f124 (j:Idd) (u:U) (hs:u.Short) (hn:u.ids.Nodup):Pure G Tryz.prog 124 [.agg u.cs,.agg j.cs] (km j u):=by
 have hW:=f73 G j u hs.1
 have hwl:=el j u
 have hc:=hs.1.2
 refine Pure.w c124 λR hR=>?_
 unfold s124 r124
 unfold km at hR
 simp only[Idd.cs]at hW ⊢
 by_cases hi:j∈u.ids/\u.id≠j
 ·obtain⟨p,d,k,e1,e2,e3⟩:=aW hn hi.1 hi.2
  rw[e1]at hR
  obtain⟨a,x,b,s,hx,hj,hl⟩:=e3.split
  have hpn:p∈u.flat:=by
   have:=aM u hn e3.mem
   rw[e3.fnd]at this;exact this
  have hps:=hs.node hpn
  have hpath:=e3.path
  have hdeep:=e3.deep
  have hlast:=e3.last
  obtain⟨q,hq⟩:∃q,U.way p.id u=q:=⟨_,rfl⟩
  rw[hq]at hpath hdeep hlast
  have hlen:(U.way j u).length=d+2:=by rw[hpath];simp;omega
  have hwne:U.way j u≠[]:=by intro e;rw[e]at hlen;simp at hlen
  rw[nF hwne]at hW
  have hg:((U.way j u).map U.cs).getD d []=p.cs:=by
   have h1:(U.way j u)[d]? =some p:=by
    rw[hpath,getElem?_append_left (by omega)]
    rw[getLast?_eq_getElem?,hdeep]at hlast
    simpa using hlast
   simp only[List.getD,getElem?_map,h1,Option.map_some,Option.getD_some]
  obtain⟨L,hL⟩:∃L,U.way j u=L:=⟨_,rfl⟩
  rw[hL]at hW hlen hg hwl
  have hwp:IntKind.i64.wrap ((L.length:Int)-2)=(d:Int):=by rw[au (by omega) (by omega)];omega
  have hkl:=hps.1.kids
  have hix:idxF (λk=>!(U.way j k).isEmpty) 0 p.kids=(k:Int):=by
   rw[fV _ _ 0 k (by rw[s.no_way,hj])];simp
  have e0:decide ((L.length:Int)<2)=false:=decide_eq_false (by omega)
  (repeat' (first|(with_reducible refine AI (by omega) ?_)|(with_reducible refine ab hW ?_)|simp only[EVz,seval,↓reduceIte,EV6,EV7,hwp,hg,e0,hne]|simp only[EVz,seval,↓reduceIte,EV6,EV7,hwp,hg,e0]|(with_reducible intro blk hblk;(try(have hnx:=hblk;simp only[EVK]at hnx;first|(have hne:=AI hnx hne)|(have hne:=hnx))))|fail))
  rename_i b1 _ _ _ b2 _ _ _
  have hI:=f188k G [(b1,.cells 23 j.cs)] (.func (.func 189) #[] #[.pointer (some ⟨b1,0,none⟩)]) (λk=>!(U.way j k).isEmpty) p.kids (by omega)
   (λy hy=>⟨_,_,_,rfl,f189 G b1 j y (hps.1.kid hy)⟩)
  rw[hix]at hI
  refine bg [(b1,.cells 23 j.cs)] [(blk,.cells 27 p.cs),(b2,.cells 23 [.int .i64 0,.int .i64 0,.int .i64 0])] hI.v (aB.rfl' _) (SubN.perm perm_append_comm) ?_
  rintro _ _ ⟨rfl,rfl⟩
  have n1:¬b1=b2:=λe=>hne.2.1 e.symm
  have n2:¬b1=blk:=λe=>hne.1.2 e.symm
  (repeat' (simp only[EVz,seval,↓reduceIte,EV6,EV7,hne,n1,n2,cons_append,nil_append]))
  exact hR _ _ (Or.inl (Or.inl rfl))
 ·have hnone:aN j u=none:=by
   by_cases h1:j∈u.ids
   ·exact cB (Classical.byContradiction λh2=>hi ⟨h1,h2⟩)
   ·unfold aN
    rw[(dI u).2 h1]
    rfl
  rw[hnone]at hR
  have hl1:(U.way j u).length<2:=by
   by_cases h1:j∈u.ids
   ·rw[aO (Classical.byContradiction λh2=>hi ⟨h1,h2⟩)];simp
   ·rw[(dI u).2 h1];simp
  cases hw:U.way j u with
  |nil=>
   rw[hw]at hW
   simp only[gl]at hW
   (repeat' (first|(with_reducible refine ab hW ?_)|simp only[EVz,seval,↓reduceIte,EV6,EV7,hne]|simp only[EVz,seval,↓reduceIte,EV6,EV7]|(with_reducible intro blk hblk;(try(have hnx:=hblk;simp only[EVK]at hnx;first|(have hne:=AI hnx hne)|(have hne:=hnx))))|fail))
   exact hR _ _ (Or.inl (Or.inl rfl))
  |cons x l=>
   rw[hw]at hW hl1
   simp only[gl,map_cons]at hW
   simp only[length_cons]at hl1
   have e0:decide (((l.length+1:Nat):Int)<2)=true:=decide_eq_true (by omega)
   (repeat' (first|(with_reducible refine ab hW ?_)|simp only[EVz,seval,↓reduceIte,EV6,EV7,e0,hne]|simp only[EVz,seval,↓reduceIte,EV6,EV7,e0]|(with_reducible intro blk hblk;(try(have hnx:=hblk;simp only[EVK]at hnx;first|(have hne:=AI hnx hne)|(have hne:=hnx))))|fail))
   exact hR _ _ (Or.inl (Or.inl rfl))
end
theorem iJ (a b:Int) (l:List (List UInt8)) (m:Int) {i:Nat} {s:List UInt8} {r:List (List UInt8)} (hx:Rest l i s r):dP a b (l.take (i+1)) m=dP a b (l.take i) m++[⟨s,a,b,m+i⟩]:=by
 have h:(l.take i).length=i:=by rw[length_take];have:=hx.lt;omega
 rw[hx.take,mC,h]
 rfl
section
variable (G:Glob)
end
section
variable (G:Glob)
def anc (j:Idd) (u:U):List Idd:=((U.way j u).dropLast.map U.id).reverse
theorem f173 (j:Idd) (u:U) (ht:u.Tame):Pure G Tryz.prog 173 [.agg u.cs,.agg j.cs] (.lst 3 ((anc j u).map Idd.cs)):=by
 have hW:=f73 G j u ht
 have hwl:=el j u
 have hc:=ht.2
 refine Pure.w c173 λR hR=>?_
 unfold s173 r173
 unfold anc at hR
 simp only[Idd.cs]at hW ⊢
 cases hw0:U.way j u with
 |nil=>
  rw[hw0]at hW hR
  simp only[gl]at hW
  (repeat' (first|(with_reducible refine ab hW ?_)|simp only[EVz,seval,↓reduceIte,EV6,EV7]|fail))
  refine Zq ([]:List U) (λi r (c:Unit)=>True) (λi c=>[(5,.nil),(6,.nil),(7,.int .i64 (-2))]) (λi c=>[]) () trivial (Weak.rfl' _ _) (by simp) (λi x r c hok hx hw=>?_) (λc hok hn=>?_)
  ·exact absurd hx.lt (by simp)
  ·(repeat' (simp only[EVz,seval,↓reduceIte,EV6,EV7,hn]))
   exact hR _ _ (Or.inl (Or.inr (by simp)))
 |cons y l=>
  have hwne:U.way j u≠[]:=by rw[hw0];simp
  rw[nF hwne]at hW
  obtain⟨L,hL⟩:∃L,U.way j u=L:=⟨_,rfl⟩
  rw[hL]at hW hwl hwne hR
  have hpos:1<=L.length:=by cases L<;>simp_all
  have hwp:IntKind.i64.wrap ((L.length:Int)-2)=(L.length:Int)-2:=au (by omega) (by omega)
  clear hw0 hL
  have hdl:L.dropLast.reverse.length=L.length-1:=by simp
  (repeat' (first|(with_reducible refine ab hW ?_)|simp only[EVz,seval,↓reduceIte,EV6,EV7,hwp]|fail))
  refine Zq (ι:=Option Nat) L.dropLast.reverse (λi r c=>True) (λi c=>[(5,.own c 23 3 ((L.dropLast.reverse.take i).map λx=>x.id.cs)),(6,.lst 8 (L.map U.cs)),(7,.int .i64 ((L.length:Int)-2-i))]) (λi c=>tokS c 23 (i*3)) none trivial (Weak.of (by simp[cQ,Env.get,AVle,aP]) (SubN.refl _)) (by omega) (λi x r c hok hx hw=>?_) (λc hok hn=>?_)
  ·have hi:=hx.lt
   rw[hdl]at hi
   have e1:decide ((0:Int)<=(L.length:Int)-2-i)=true:=decide_eq_true (by omega)
   have w1:IntKind.i64.wrap ((L.length:Int)-2-i-1)=(L.length:Int)-2-((i+1:Nat):Int):=by rw[au (by omega) (by omega)];omega
   have hn2:((L.length:Int)-2-i).toNat=L.length-2-i:=by omega
   have hg:(L.map U.cs).getD (L.length-2-i) []=x.cs:=by
    have h1:=hx.get noU
    have h2:L.dropLast.reverse[i]? =some x:=by
     rw[getD_eq_getElem?_getD]at h1
     rw[getElem?_eq_getElem (by rw[hdl];exact hi)]at h1 ⊢
     simp at h1 ⊢
     exact h1
    rw[getElem?_reverse (by simp;omega),getElem?_dropLast]at h2
    simp only[length_dropLast]at h2
    rw[show L.length-1-1-i=L.length-2-i by omega,if_pos (by omega)]at h2
    simp only[List.getD,getElem?_map,h2,Option.map_some,Option.getD_some]
   (repeat' (first|(with_reducible refine AI (by omega) ?_)|simp only[EVz,seval,↓reduceIte,EV6,EV7,e1,w1,hn2,hg]|(with_reducible intro blk hblk;(try(have hnx:=hblk;simp only[EVK]at hnx;(have hne:=hnx))))|fail))
   refine cV (n:=i) (m':=(i+1)*3) bI (by rw[length_map,length_take];omega) rfl rfl rfl (by assumption) (by omega) (λgn=>?_)
   refine af hx gn trivial ?_
   simp only[hx.take,map_append,map_cons,map_nil,Idd.cs]
   exact Weak.rfl' _ _
  ·have e1:decide ((0:Int)<=(L.length:Int)-2-(L.dropLast.reverse.length:Int))=false:=decide_eq_false (by rw[hdl];omega)
   (repeat' (simp only[EVz,seval,↓reduceIte,EV6,EV7,e1]))
   exact hR _ _ (Or.inl (Or.inr ⟨rfl,by rw[take_length,←map_reverse,map_map];rfl⟩))
end
def LeRep (x y:AV):Prop:=∀σ w u,Rep σ w x u->Rep σ w y u
theorem LeRep.of {x y:AV} (h:AVle x y):LeRep x y:=λ_ _ _ hr=>h.rep hr
theorem aj.toPure {G:Glob} {P:Program} {k:FuncId} {args:List AV} {R:AV->Store->Prop} {r0:AV} (h:aj G P k args [] R) (hR:∀r σ',R r σ'->LeRep r r0):Pure G P k args r0:=
 ⟨h.1,λρ w vs hS hA=>(h.2 ρ w vs hS hA).mono (by
  rintro e w' ⟨v,r,σ',rfl,hr,hS',hE,hrep⟩
  exact⟨v,r0,[],rfl,⟨rfl,rfl⟩,hS'.subN (SubN.nil σ'),hE.trans (Ev.of_sub (SubN.nil σ').1 w'),Rep.ev (Ev.of_sub (SubN.nil σ').1 w') _ _ (hR r σ' hr _ _ _ hrep)⟩)⟩
theorem tokF {g:Option Nat} {e:TypeId} {m:Nat} {κ:Store} (hg:∀b,g=some b->b∉κ.keys):∀b,g=some b->Store.get (κ++tokS g e m) b=some (.tok e m):=by
 rintro b rfl
 rw[ao (hg b rfl)]
 simp[tokS,Store.get]
section
variable (G:Glob)
end
def U.wt (u:U):Nat:=(u.flat.map λy=>y.head.length+y.words.length).sum
def U.wts (us:List U):Nat:=((U.flats us).map λy=>y.head.length+y.words.length).sum
theorem U.wt_eq (u:U):u.wt=u.head.length+u.words.length+U.wts u.kids:=by unfold U.wt U.wts;rw[U.flat_eq];simp
theorem U.wts_nil:U.wts []=0:=by unfold U.wts;rw[bt];rfl
theorem U.wts_cons (u:U) (us:List U):U.wts (u::us)=u.wt+U.wts us:=by unfold U.wt U.wts;rw[aD];simp
theorem U.wts_app (a b:List U):U.wts (a++b)=U.wts a+U.wts b:=by unfold U.wts;rw[cv];simp
theorem iL (a b:Int) (x:U):∀(l:List U) (n m:Int),U.stamps a b (l++[x]) n m=((U.stamps a b l n m).1++[(U.stamp a b x (U.stamps a b l n m).2.1 (U.stamps a b l n m).2.2).1],(U.stamp a b x (U.stamps a b l n m).2.1 (U.stamps a b l n m).2.2).2)
 |[],n,m=>by rw[nil_append,U.stamps_cons,U.stamps_nil,U.stamps_nil];rfl
 |u::l,n,m=>by rw[cons_append,U.stamps_cons,iL a b x l,U.stamps_cons];rfl
theorem pi (a b:Int):∀(u:U) (n m:Int),(U.stamp a b u n m).2.2=m+u.wt:=by
 refine U.ind λu ih n m=>?_
 have h:∀(us:List U),(∀k∈us,∀n m,(U.stamp a b k n m).2.2=m+k.wt)->∀n m,(U.stamps a b us n m).2.2=m+U.wts us:=by
  intro us
  induction us with
  |nil=>intro _ n m;rw[U.stamps_nil,U.wts_nil];simp
  |cons x us ihu=>
   intro h n m
   rw[U.stamps_cons]
   simp only
   rw[ihu (λk hk=>h k (by simp[hk])),h x (by simp),U.wts_cons]
   omega
 rw[U.stamp_eq]
 simp only
 rw[h u.kids ih,U.wt_eq]
 omega
theorem gA (a b:Int) (us:List U) (n m:Int):(U.stamps a b us n m).2.1=n+(U.flats us).length/\(U.stamps a b us n m).2.2=m+U.wts us/\(U.stamps a b us n m).1.length=us.length:=by
 refine⟨(gL a b (λk _ n m=>lC a b k n m) n m).next,?_,?_⟩
 ·induction us generalizing n m with
  |nil=>rw[U.stamps_nil,U.wts_nil];simp
  |cons x us ih=>
   rw[U.stamps_cons]
   simp only
   rw[ih,pi,U.wts_cons]
   omega
 ·have:=congrArg List.length (gL a b (us:=us) (λk _ n m=>lC a b k n m) n m).key
  simpa using this
theorem lX {e:TypeId} {sz bytes m:Nat} {g:Option Nat} {rows ys:List (List AV)} {K:AV->Store->Prop} {b1 b2:Nat} {y1 y2:AObj} (κ:Store) (hb1:b1∉Store.keys (κ++tokS g e m)) (hb2:b2∉Store.keys ((b1,y1)::(κ++tokS g e m))) (hg:∀b,g=some b->b∉κ.keys) (hm:m=rows.length*sz) (hnd:κ.keys.Nodup) (hb:(rows.length+ys.length)*bytes<=140737488355328)
  (hk:∀g',(∀b,g'=some b->b∉κ.keys)->K (.own g' e sz (rows++ys)) (κ++tokS g' e ((rows++ys).length*sz))):appX e sz bytes ((b2,y2)::(b1,y1)::(κ++tokS g e m)) g rows ys K:=by
 subst hm
 refine fR κ (λb h=>?_) hb ⟨λq hq=>?_,λ_=>hnd⟩ hk
 ·have h1:=tokF (e:=e) (m:=rows.length*sz) hg b h
  have hkey:b∈Store.keys (κ++tokS g e (rows.length*sz)):=mem_map.2 ⟨_,Store.get_mem h1,rfl⟩
  have h2:b1≠b:=λe=>hb1 (by rw[e];exact hkey)
  have h3:b2≠b:=λe=>hb2 (by rw[e];exact mem_cons_of_mem _ hkey)
  simp only[Store.get,if_neg h2,if_neg h3]
  exact h1
 ·cases g with
  |none=>exact mem_cons_of_mem _ (mem_cons_of_mem _ (mem_append.2 (.inl hq)))
  |some b=>
   refine mem_filter.2 ⟨mem_cons_of_mem _ (mem_cons_of_mem _ (mem_append.2 (.inl hq))),?_⟩
   have:q.1≠b:=λh=>hg b rfl (by rw[←h];exact mem_map.2 ⟨q,hq,rfl⟩)
   simpa using this
section
variable (G:Glob)
end
def msr (l:List U):Nat:=(l.map λx=>x.flat.length).sum
theorem j7:msr []=0:=rfl
theorem cR (x:U) (l:List U):msr (x::l)=x.flat.length+msr l:=by simp[msr]
theorem fZ (a b:List U):msr (a++b)=msr a+msr b:=by simp[msr]
theorem ee:∀l:List U,l.length<=msr l
 |[]=>Nat.le_refl _
 |x::l=>by have:=ee l;have:=x.flat_pos;rw[cR,length_cons];omega
theorem gX:∀us:List U,msr us=(U.flats us).length
 |[]=>by rw[bt];rfl
 |u::us=>by rw[cR,gX us,aD,length_append]
theorem iE (p:U->Bool):∀l:List U,msr (l.filter p)<=msr l
 |[]=>Nat.le_refl _
 |x::l=>by
  have:=iE p l
  rw[filter_cons]
  split
  ·rw[cR,cR];omega
  ·rw[cR];omega
theorem fQ (s:Stp):∀l:List U,msr (ay l s)<=msr l
 |[]=>Nat.le_refl _
 |x::l=>by
  have h1:=fQ s l
  have h2:=iE (λk=>aJ k s) x.kids
  have h3:msr x.kids=x.flat.length-1:=by rw[gX,U.flat_eq];simp
  have e:ay (x::l) s=x.kids.filter (λk=>aJ k s)++ay l s:=by simp[ay]
  rw[e,fZ,cR];omega
theorem mP {u x:U} (hx:x∈u.flat):x.flat.length<=u.flat.length:=by
 revert hx
 refine U.ind (p:=λu=>x∈u.flat->x.flat.length<=u.flat.length) (λu ih hx=>?_) u
 rw[U.flat_eq]at hx
 rcases mem_cons.1 hx with rfl|hx
 ·exact Nat.le_refl _
 ·obtain⟨y,hy,hx⟩:=ce hx
  have h1:=ih y hy hx
  have h2:=U.flats_mem hy
  rw[U.flat_eq u,length_cons];omega
theorem msr_le {N:Nat}:∀{l:List U},(∀x∈l,x.flat.length<=N)->msr l<=l.length*N
 |[],_=>Nat.zero_le _
 |x::l,h=>by
  have h1:=msr_le (l:=l) λy hy=>h y (by simp[hy])
  have h2:=h x (by simp)
  rw[cR,length_cons,Nat.add_mul];omega
theorem msr_flat (u:U):msr u.flat<=u.flat.length*u.flat.length:=msr_le λx hx=>mP hx
def cu (u:U) (s:Stp):List U:=if j5 s then [u]else u.flat.filter λx=>aJ x s
theorem ir (u:U) (s:Stp):msr (cu u s)<=u.flat.length*u.flat.length:=by
 unfold cu
 split
 ·have:=u.flat_pos
  rw[cR,j7]
  exact Nat.le_mul_of_pos_right _ this
 ·exact Nat.le_trans (iE _ _) (msr_flat u)
theorem mG:∀(r:List Stp) (l:List U),msr (r.foldl ay l)<=msr l
 |[],l=>Nat.le_refl _
 |s::r,l=>Nat.le_trans (mG r (ay l s)) (fQ s l)
theorem jG (u:U) (p:List Stp):(eu u p).length<=u.flat.length*u.flat.length:=by
 refine Nat.le_trans (ee _) ?_
 unfold eu
 split
 ·exact Nat.zero_le _
 ·split
  ·have:=u.flat_pos
   rw[cR,j7]
   exact Nat.le_mul_of_pos_right _ this
  ·exact Nat.le_trans (mG _ _) (ir u _)
theorem ik (l:List U) (x:U) (s:Stp):ay (l++[x]) s=ay l s++x.kids.filter λk=>aJ k s:=by simp[ay]
def zPre (l:List U) (y:Stp) (ks:List U) (j k:Nat):List U:=ay (l.take j) y++(ks.take k).filter λx=>aJ x y
theorem lZ (l:List U) (y:Stp) (ks:List U) (j:Nat):zPre l y ks j 0=ay (l.take j) y:=by simp[zPre]
theorem ml (l:List U) (y:Stp) (ks:List U) (j:Nat):zPre l y ks j ks.length=ay (l.take j) y++ks.filter λx=>aJ x y:=by simp[zPre]
theorem oL (l:List U) (y:Stp) (ks:List U) (j k:Nat):(zPre l y ks j k).length=(ay (l.take j) y).length+((ks.take k).filter λx=>aJ x y).length:=by simp[zPre]
theorem oK {l:List U} {y:Stp} {ks:List U} {j k:Nat} {q:U} {r:List U} (hq:Rest ks k q r) (hc:aJ q y=true):zPre l y ks j (k+1)=zPre l y ks j k++[q]:=by
 unfold zPre
 rw[hq.take,filter_append,append_assoc]
 simp[hc]
theorem oF {l:List U} {y:Stp} {ks:List U} {j k:Nat} {q:U} {r:List U} (hq:Rest ks k q r) (hc:aJ q y=false):zPre l y ks j (k+1)=zPre l y ks j k:=by
 unfold zPre
 rw[hq.take,filter_append]
 simp[hc]
section
variable (G:Glob)
end
def gx (u:U) (p:List Stp):AV:=.tup [.agg [.int .i64 (one u p).1.act,.int .i64 (one u p).1.item,.int .i64 (one u p).1.n],.int .i64 (one u p).2]
section
variable (G:Glob)
end
def Dd.cs (d:Dd):List AV:=.int .i64 d.act:: .int .i64 d.item:: .int .i64 d.day::d.it.cs
def aQ (q:U×Int):AV:=.tup [.agg q.1.cs,.int .i64 q.2]
structure Unit0 (d:Dd):Prop where
 nodes:∀y∈d.it.unit.flat,nodeOk y=true
 cnt:d.it.unit.flat.length<=1024
theorem wt_le {u:U} (h:∀y∈u.flat,nodeOk y=true):u.wt<=u.flat.length*512:=by
 unfold U.wt
 have:∀l:List U,(∀y∈l,nodeOk y=true)->(l.map λy=>y.head.length+y.words.length).sum<=l.length*512:=by
  intro l
  induction l with
  |nil=>intro _;simp
  |cons x l ih=>
   intro h
   have h1:=ih λy hy=>h y (by simp[hy])
   have h2:=dk (h x (by simp))
   have h3:=h2.head.1
   have h4:=h2.words.1
   rw[map_cons,sum_cons,length_cons]
   omega
 exact this u.flat h
section
variable (G:Glob)
end
end Go.Av
