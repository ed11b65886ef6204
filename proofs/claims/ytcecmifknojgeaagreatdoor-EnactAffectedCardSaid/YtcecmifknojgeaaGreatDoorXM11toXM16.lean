/-
  ENACT, M11: words edited by the reference.
-/
import Derived.Test.YtcecmifknojgeaaGreatDoorXM17toXM10
import Derived.Test.YtcecmifknojgeaaGreatDoorXAv34toXM15
namespace Go.Av
open Go Go.RowKit Go.Proofs List
set_option linter.unusedSimpArgs false
set_option linter.unusedVariables false
section
variable (G:Glob)
def OwnW (l:List Wd) (r:AV) (σ:Store):Prop:=∃g,r= .own g 64 4 (l.map Wd.cs)/\σ=tokS g 64 (l.length*4)
theorem f57o (l:List (List UInt8)) (a b m:Int) (hl:l.length<1000000) (hm0:0<=m) (hm:m<1000000000000):aj G Tryz.prog 57 [.lst 1 (l.map srow),.int .i64 a,.int .i64 b,.int .i64 m] [] (OwnW (markW a b l m)):=by
 refine aj.w c57 ?_
 unfold s57 r57
 (repeat' (first|simp only[EVz,seval,↓reduceIte,EV6,EV7,hx.yes,hx.le0,hx.lt',hx.get,hx.row,hw,au (x:=m+(i:Int)) (by omega) (by have:=hx.lt;omega)]|simp only[EVz,seval,↓reduceIte,EV6,EV7,hn]|simp only[EVz,seval,↓reduceIte,EV6,EV7]|(with_reducible intro blk hblk;(try(have hnx:=hblk;simp only[EVK]at hnx;(have hne:=hnx))))|(refine⟨[],rfl,(by simp),rfl,?_⟩)|(refine Zq (ι:=Option Nat) l (λi r c=>True) (λi c=>[(0,.lst 1 (l.map srow)),(1,.int .i64 a),(2,.int .i64 b),(3,.int .i64 m),(9,.own c 64 4 ((markW a b (l.take i) m).map Wd.cs)),(10,.int .i64 i)]) (λi c=>tokS c 64 (i*4)) (some blk) trivial (Weak.rfl' _ _) (by omega) (λi x r c hok hx hw=>?_) (λc hok hn=>?_))|fail))
 ·have hi:=hx.lt
  refine cV (n:=i) (m':=(i+1)*4) bI (by rw[length_map,bq,length_take];omega) rfl rfl rfl (by assumption) (by omega) (λgn=>?_)
  refine af hx gn trivial ?_
  rw[iJ a b l m hx,map_append]
  exact Weak.rfl' _ _
 ·rw[take_length]
  exact RET.mk (SubN.refl _) ⟨c,rfl,by rw[bq]⟩
end
def selP (nth:Int) (i:Nat) (r:List Nat):List Nat:=if nth=0 then r else if (i:Int)<nth then (match r[(nth-1-i).toNat]? with
 |some p=>[p]
 |none=>[])else []
theorem selP_zero (nth:Int) (r:List Nat) (h:0<=nth):selP nth 0 r=bH r nth:=by
 unfold selP bH
 by_cases h0:nth=0
 ·rw[if_pos h0,if_pos h0]
 ·rw[if_neg h0,if_neg h0,if_pos (by omega),show(nth-1-((0:Nat):Int)).toNat=(nth-1).toNat by simp]
  cases r[(nth-1).toNat]? <;>rfl
theorem selP_all {i:Nat} {x:Nat} {r:List Nat}:selP 0 i (x::r)=x::selP 0 (i+1) r:=by simp[selP]
theorem selP_this {nth:Int} {i:Nat} {x:Nat} {r:List Nat} (h:nth=(i:Int)+1):selP nth i (x::r)=x::selP nth (i+1) r:=by
 unfold selP
 rw[if_neg (by omega),if_pos (by omega),if_neg (by omega),if_neg (by omega),show(nth-1-(i:Int)).toNat=0 by omega]
 rfl
theorem px {nth:Int} {i:Nat} {x:Nat} {r:List Nat} (h0:nth≠0) (h:nth≠(i:Int)+1):selP nth i (x::r)=selP nth (i+1) r:=by
 unfold selP
 rw[if_neg h0,if_neg h0]
 by_cases hi:(i:Int)<nth
 ·rw[if_pos hi,if_pos (by omega),show(nth-1-(i:Int)).toNat=(nth-1-((i+1:Nat):Int)).toNat+1 by omega]
  rfl
 ·rw[if_neg hi,if_neg (by omega)]
theorem eX {n len:Nat} (hl:1<=len):∀{ps:List Nat} {s:Nat},s<=n->Gaps n len s ps->s+ps.length<=n
 |[],s,h,_=>by simpa using h
 |p::ps,s,h,⟨h1,h2,h3⟩=>by
  have:=eX hl h2 h3
  rw[length_cons];omega
theorem kO {ps:List Nat} {nth:Int} (h0:0<=nth):bH ps nth=[]↔ps=[]\/(ps.length:Int)<nth:=by
 unfold bH
 by_cases h:nth=0
 ·rw[if_pos h]
  constructor
  ·exact .inl
  ·rintro(e|e)
   ·exact e
   ·omega
 ·rw[if_neg h]
  cases hp:ps[(nth-1).toNat]? with
  |none=>
   have:=List.getElem?_eq_none_iff.1 hp
   simp only[true_iff]
   exact .inr (by omega)
  |some p=>
   have:=(List.getElem?_eq_some_iff.1 hp).1
   simp only[cons_ne_nil,false_iff,not_or]
   exact⟨by rintro rfl;simp at this,by omega⟩
def tgt (w:List Wd) (x:Itm) (a b:Int) (s:Nat) (ps:List Nat) (m:Int):List Wd:=if x.kind=3 then dy w x.new a b 0 s (ps.map (· +x.old.length)) m else dy w x.new a b x.old.length s ps m
theorem tgt_nil (w:List Wd) (x:Itm) (a b:Int) (s:Nat) (m:Int):tgt w x a b s [] m=w.drop s:=by unfold tgt;split<;>simp[dy]
theorem lR {w:List Wd} {s p q:Nat} (h1:s<=p) (h2:p<=q) (h3:q<=w.length):(w.take q).drop s=(w.take p).drop s++(w.take q).drop p:=by
 obtain⟨k,rfl⟩:∃k,p=s+k:=⟨p-s,by omega⟩
 obtain⟨j,rfl⟩:∃j,q=s+k+j:=⟨q-(s+k),by omega⟩
 have e1:(w.take (s+k+j)).drop s=(w.drop s).take (k+j):=by rw[drop_take];congr 1;omega
 have e2:(w.take (s+k)).drop s=(w.drop s).take k:=by rw[drop_take];congr 1;omega
 have e3:(w.take (s+k+j)).drop (s+k)=((w.drop s).drop k).take j:=by rw[drop_take,drop_drop];congr 1;omega
 rw[e1,e2,e3,take_add]
theorem tgt_cons {w:List Wd} {x:Itm} {a b:Int} {s p:Nat} {ps:List Nat} {m:Int} (h1:s<=p) (h2:p+x.old.length<=w.length):tgt w x a b s (p::ps) m=
  (w.take p).drop s++((if x.kind=3 then (w.take (p+x.old.length)).drop p else [])++(markW a b x.new m++tgt w x a b (p+x.old.length) ps (m+x.new.length))):=by
 unfold tgt
 by_cases h:x.kind=3
 ·rw[if_pos h,if_pos h,if_pos h,map_cons,dy,lR h1 (Nat.le_add_right _ _) h2]
  simp[append_assoc]
 ·rw[if_neg h,if_neg h,if_neg h,dy]
  simp
theorem tgt_len {w:List Wd} {x:Itm} {a b:Int}:∀{ps:List Nat} {s:Nat} {m:Int},Gaps w.length x.old.length s ps->s<=w.length->(tgt w x a b s ps m).length<=w.length+ps.length*x.new.length
 |ps,s,m,h,hs=>by
  unfold tgt
  split
  ·have:=jI w x.new a b 0 (ps.map (· +x.old.length)) s m (fX h) hs
   rw[length_map]at this
   omega
  ·have:=jI w x.new a b x.old.length ps s m h hs
   omega
theorem editE_tgt (w:List Wd) (x:Itm) (a b:Int) (h:¬(x.kind=3/\x.old=[])) (h2:¬bH (occs w x.old) x.nth=[]):editE w x a b=if 256<(tgt w x a b 0 (bH (occs w x.old) x.nth) 0).length then ([],6)else (tgt w x a b 0 (bH (occs w x.old) x.nth) 0,0):=by
 unfold editE tgt
 rw[if_neg h,if_neg h2]
 by_cases hk:x.kind=3
 ·simp only[hk,if_true]
 ·simp only[hk,if_false]
theorem selP_nil (nth:Int) (i:Nat):selP nth i []=[]:=by unfold selP;split<;>(try split)<;>simp
def fA (q:List Wd×Int):AV:=.tup [.lst 4 (q.1.map Wd.cs),.int .i64 q.2]
section
variable (G:Glob)
set_option maxHeartbeats 1000000 in
theorem f78 (w:List Wd) (x:Itm) (a b:Int) (hw:w.length<=256) (hn:x.new.length<=256) (ho:x.old.length<=256) (hk:x.kind=2\/x.kind=3) (h2:x.kind=2->x.old≠[]) (hth:0<=x.nth/\x.nth<=256) (h3:x.kind=3->x.old=[]->x.nth=0):
  Pure G Tryz.prog 78 [.lst 4 (w.map Wd.cs),.agg x.cs,.int .i64 a,.int .i64 b] (fA (editE w x a b)):=by
 refine aj.toPure (R:=λr _=>LeRep r (fA (editE w x a b))) (aj.w c78 ?_) (λr σ' h=>h)
 unfold s78 r78
 by_cases hc:x.kind=3/\x.old=[]
 ·have hM:=f57o G x.new a b 0 (by omega) (by decide) (by decide)
  have e0:decide (x.kind=3)=true:=decide_eq_true hc.1
  have e1:decide ((x.old.length:Int)=0)=true:=decide_eq_true (by rw[hc.2];rfl)
  unfold editE
  rw[if_pos hc]
  have hml:(markW a b x.new 0).length=x.new.length:=bq a b x.new 0
  (try simp only[EVz,seval,↓reduceIte,EV6,EV7,e0,e1])
  refine az [] _ hM.v (aB.rfl' _) (SubN.refl _) ?_
  rintro _ _ ⟨g,rfl,rfl⟩ hnd
  (repeat' (first|(with_reducible (refine ae (λh=>?_) (λh=>?_))<;>(try simp only[Da,Db,Dc,Dw,De,Df,Dg,Dh]at h))|simp only[EVz,seval,↓reduceIte,EV6,EV7,e0,e1]|(refine cH (by((simp only[length_map]<;>exact bI))) rfl rfl (by simp<;>omega) (λgn=>?_))|fail))
  ·rw[if_pos (by simp at h ⊢;omega)]
   exact RET.any (LeRep.tup (.cons (LeRep.of (.inl (.inr rfl))) (.cons (.refl _) .nil)))
  ·rw[if_neg (by simp at h ⊢;omega)]
   exact RET.any (LeRep.tup (.cons (LeRep.of (.inl (.inr ⟨rfl,by rw[map_append]⟩))) (.cons (.refl _) .nil)))
 ·have hold:x.old≠[]:=by
   rcases hk with hk|hk
   ·exact h2 hk
   ·exact λe=>hc ⟨hk,e⟩
  have hP:=f152 G w x.old (by omega) (by omega) hold
  have hg:=fP (w:=w) hold
  have hol:1<=x.old.length:=by cases hx:x.old<;>simp_all
  have hed:=editE_tgt w x a b hc
  have hed0:bH (occs w x.old) x.nth=[]->editE w x a b=([],4):=λh=>by unfold editE;rw[if_neg hc,if_pos h]
  obtain⟨ps,hps⟩:∃ps,occs w x.old=ps:=⟨_,rfl⟩
  rw[hps]at hP hg hed hed0
  have hpl:ps.length<=w.length:=by have:=eX hol (Nat.zero_le _) hg;omega
  have e00:(decide (x.kind=3)&&decide ((x.old.length:Int)=0))=false:=by
   rw[Bool.and_eq_false_iff]
   exact .inr (decide_eq_false (by omega))
  have e01:decide ((x.old.length:Int)=0)=false:=decide_eq_false (by omega)
  by_cases hne0:bH ps x.nth=[]
  ·rw[hed0 hne0]
   have hor:=(kO hth.1).1 hne0
   have hor2:ps.length=0\/(ps.length:Int)<x.nth:=hor.imp (λe=>by rw[e];rfl) id
   clear hor hed hed0 hg
   (repeat' (first|(with_reducible (first|refine ae (λh=>?_) (λh=>?_)|refine ag (λh=>?_) (λh=>?_))<;>(try simp only[Da,Db,Dc,Dw,De,Df,Dg,Dh]at h))|(with_reducible refine ab hP ?_)|simp only[EVz,seval,↓reduceIte,EV6,EV7,e01]|(with_reducible intro blk hblk;(try(have hnx:=hblk;simp only[EVK]at hnx;(have hne:=hnx))))|(exfalso;omega)|fail))
   all_goals exact RET.any (LeRep.tup (.cons (LeRep.of (.inl (.inr rfl))) (.cons (.refl _) .nil)))
  ·rw[hed hne0]
   have hno:¬(ps.length=0\/(ps.length:Int)<x.nth):=λh=>hne0 ((kO hth.1).2 (h.imp (λe=>eq_nil_of_length_eq_zero e) id))
   have c1:decide ((ps.length:Int)=0)=false:=decide_eq_false (by omega)
   have c2:decide ((ps.length:Int)<x.nth)=false:=decide_eq_false (by omega)
   have hsel:=selP_zero x.nth ps hth.1
   have hTl:=tgt_len (a:=a) (b:=b) (m:=0) (dC (nth:=x.nth) hg) (Nat.zero_le _)
   have hcl:(bH ps x.nth).length<=256:=by
    have:=eX hol (Nat.zero_le _) (dC (nth:=x.nth) hg)
    omega
   obtain⟨T,hT⟩:∃T,tgt w x a b 0 (bH ps x.nth) 0=T:=⟨_,rfl⟩
   rw[hT]at hTl ⊢
   have hTb:T.length<=65792:=Nat.le_trans hTl (Nat.add_le_add hw (Nat.mul_le_mul hcl hn))
   clear hed hed0 hTl hne0
   (repeat' (first|(with_reducible (refine ag (λh=>?_) (λh=>?_))<;>(try simp only[Da,Db,Dc,Dw,De,Df,Dg,Dh]at h))|(with_reducible refine ab hP ?_)|simp only[EVz,seval,↓reduceIte,EV6,EV7,e01,c1,c2]|(with_reducible intro blk hblk;(try(have hnx:=hblk;simp only[EVK]at hnx;(have hne:=hnx))))|(refine⟨[],rfl,(by simp),rfl,?_⟩)|fail))
   all_goals
    refine Zq (ι:=List Wd×Nat×Int×Option Nat) ps (λi r c=>T=c.1++tgt w x a b c.2.1 (selP x.nth i r) c.2.2.1/\Gaps w.length x.old.length c.2.1 r/\c.2.1<=w.length/\0<=c.2.2.1/\c.2.2.1<=256*(i:Int)) (λi c=>[(0,.lst 4 (w.map Wd.cs)),(2,.int .i64 a),(3,.int .i64 b),(5,.ref x.cs),(11,.lst 1 (ps.map λn:Nat=>[AV.int .i64 (n:Int)])),(12,.own c.2.2.2 64 4 (c.1.map Wd.cs)),(13,.int .i64 c.2.1),(14,.int .i64 c.2.2.1),(15,.int .i64 i)]) (λi c=>tokS c.2.2.2 64 (c.1.length*4)) ([],0,0,some blk) ⟨by rw[hsel,hT];rfl,hg,Nat.zero_le _,Int.le_refl 0,Int.le_refl 0⟩ (Weak.rfl' _ _) (by omega) (λi p r c hok hx hwi=>?_) (λc hok hnn=>?_)
    ·obtain⟨L,st,m,g⟩:=c
     obtain⟨k1,k2,k3,k4,k5⟩:=hok
     simp only at k1 k2 k3 k4 k5 ⊢
     have hil:=hx.lt
     have hLl:L.length<=65792:=by
      have:=congrArg List.length k1
      rw[length_append]at this
      omega
     obtain⟨g1,g2,g3⟩:=k2
     have hM:=f57 G x.new a b m (by omega) k4 (by omega)
     have wp:IntKind.i64.wrap ((p:Int)+(x.old.length:Int))=((p+x.old.length:Nat):Int):=by rw[au (by omega) (by omega)];omega
     have wm:IntKind.i64.wrap (m+(x.new.length:Int))=m+x.new.length:=au (by omega) (by omega)
     have hpr:=hx.row (λn:Nat=>[AV.int .i64 (n:Int)]) []
     have hml:(markW a b x.new m).length=x.new.length:=bq a b x.new m
     clear hT hsel hcl hpl hol hold hg hno hTb
     rcases Classical.em (x.nth=0\/x.nth=(i:Int)+1)with hs|hs
     ·have hse:selP x.nth i (p::r)=p::selP x.nth (i+1) r:=by
       rcases hs with h|h
       ·rw[h];exact selP_all
       ·exact selP_this h
      rw[hse,tgt_cons g1 g2]at k1
      rcases Classical.em (x.kind=3)with hk3|hk3
      ·have e4:decide (x.kind=3)=true:=decide_eq_true hk3
       rw[if_pos hk3]at k1
       (repeat' (first|(with_reducible (first|refine ae (λh=>?_) (λh=>?_)|refine ag (λh=>?_) (λh=>?_))<;>(try simp only[Da,Db,Dc,Dw,De,Df,Dg,Dh]at h))|(with_reducible refine AI (by omega) ?_)|(with_reducible refine ab hM ?_)|simp only[EVz,seval,↓reduceIte,EV6,EV7,hx.yes,hx.le0,hx.lt',hpr,hwi,wp,wm,e4]|(refine cH (by first|exact bI|(simp only[length_map]<;>exact bI)) rfl rfl (by simp<;>omega) (λgn=>?_))|(exfalso;omega)|fail))
       all_goals
        refine af hx (L++((w.take p).drop st++((w.take (p+x.old.length)).drop p++markW a b x.new m)),p+x.old.length,m+x.new.length,gn) ⟨by rw[k1];simp only[append_assoc],g3,g2,by simp only;omega,by simp only;omega⟩ ?_
        rw[show(L.map Wd.cs++List.drop st (List.take p (w.map Wd.cs))++List.drop p (List.take (p+x.old.length) (w.map Wd.cs))++(markW a b x.new m).map Wd.cs)=(L++((w.take p).drop st++((w.take (p+x.old.length)).drop p++markW a b x.new m))).map Wd.cs by simp only[map_append,map_take,map_drop,append_assoc],length_map]
        exact Weak.of (by simp[cQ,Env.get,AVle,aP]) (SubN.refl _)
      ·have e4:decide (x.kind=3)=false:=decide_eq_false hk3
       rw[if_neg hk3,nil_append]at k1
       (repeat' (first|(with_reducible (first|refine ae (λh=>?_) (λh=>?_)|refine ag (λh=>?_) (λh=>?_))<;>(try simp only[Da,Db,Dc,Dw,De,Df,Dg,Dh]at h))|(with_reducible refine AI (by omega) ?_)|(with_reducible refine ab hM ?_)|simp only[EVz,seval,↓reduceIte,EV6,EV7,hx.yes,hx.le0,hx.lt',hpr,hwi,wp,wm,e4]|(refine cH (by first|exact bI|(simp only[length_map]<;>exact bI)) rfl rfl (by simp<;>omega) (λgn=>?_))|(exfalso;omega)|fail))
       all_goals
        refine af hx (L++((w.take p).drop st++markW a b x.new m),p+x.old.length,m+x.new.length,gn) ⟨by rw[k1];simp only[append_assoc],g3,g2,by simp only;omega,by simp only;omega⟩ ?_
        rw[show(L.map Wd.cs++List.drop st (List.take p (w.map Wd.cs))++(markW a b x.new m).map Wd.cs)=(L++((w.take p).drop st++markW a b x.new m)).map Wd.cs by simp only[map_append,map_take,map_drop,append_assoc],length_map]
        exact Weak.of (by simp[cQ,Env.get,AVle,aP]) (SubN.refl _)
     ·have hse:selP x.nth i (p::r)=selP x.nth (i+1) r:=px (λh=>hs (.inl h)) λh=>hs (.inr h)
      rw[hse]at k1
      (repeat' (first|(with_reducible (first|refine ae (λh=>?_) (λh=>?_)|refine ag (λh=>?_) (λh=>?_))<;>(try simp only[Da,Db,Dc,Dw,De,Df,Dg,Dh]at h))|(with_reducible refine AI (by omega) ?_)|simp only[EVz,seval,↓reduceIte,EV6,EV7,hx.yes,hx.le0,hx.lt',hpr,hwi,wp,wm]|(exfalso;omega)|fail))
      all_goals exact af hx (L,st,m,g) ⟨k1,g3.from (show st<=p+x.old.length by omega),k3,k4,by simp only;omega⟩ (Weak.of (by simp[cQ,Env.get,AVle,aP]) (SubN.refl _))
    ·obtain⟨L,st,m,g⟩:=c
     obtain⟨k1,k2,k3,k4,k5⟩:=hok
     simp only at k1 k2 k3 k4 k5 ⊢
     rw[selP_nil,tgt_nil]at k1
     have hLl:L.length<=65792:=by
      have:=congrArg List.length k1
      rw[length_append]at this
      omega
     have hdl:(w.drop st).length<=256:=by rw[length_drop];omega
     clear hT hsel hcl hpl hol hold hg hno
     (repeat' (first|(with_reducible (refine ae (λh=>?_) (λh=>?_))<;>(try simp only[Da,Db,Dc,Dw,De,Df,Dg,Dh]at h))|(with_reducible refine AI (by omega) ?_)|simp only[EVz,seval,↓reduceIte,EV6,EV7,hnn]|(refine cH (by((simp only[length_map]<;>exact bI))) rfl rfl (by simp<;>omega) (λgn=>?_))|fail))
     all_goals
      have e:L.map Wd.cs++List.drop st (List.take w.length (w.map Wd.cs))=T.map Wd.cs:=by rw[k1,take_of_length_le (by simp),map_append,map_drop]
      rw[e,length_map]at h
     ·rw[if_pos (by omega)]
      exact RET.any (LeRep.tup (.cons (LeRep.of (.inl (.inr rfl))) (.cons (.refl _) .nil)))
     ·rw[if_neg (by omega)]
      exact RET.any (LeRep.tup (.cons (LeRep.of (.inl (.inr ⟨rfl,e⟩))) (.cons (.refl _) .nil)))
end
section
variable (G:Glob)
theorem f102o (l:List (List UInt8)) (a b m:Int) (hl:l.length<1000000) (hm0:0<=m) (hm:m<1000000000000):aj G Tryz.prog 102 [.lst 1 (l.map srow),.int .i64 a,.int .i64 b,.int .i64 m] [] (OwnW (markW a b l m)):=by
 refine aj.w c102 ?_
 unfold s102 r102
 (repeat' (first|simp only[EVz,seval,↓reduceIte,EV6,EV7,hx.yes,hx.le0,hx.lt',hx.get,hx.row,hw,au (x:=m+(i:Int)) (by omega) (by have:=hx.lt;omega)]|simp only[EVz,seval,↓reduceIte,EV6,EV7,hn]|simp only[EVz,seval,↓reduceIte,EV6,EV7]|(with_reducible intro blk hblk;(try(have hnx:=hblk;simp only[EVK]at hnx;(have hne:=hnx))))|(refine Zq (ι:=Option Nat) l (λi r c=>True) (λi c=>[(1,.int .i64 a),(2,.int .i64 b),(3,.int .i64 m),(9,.own c 64 4 ((markW a b (l.take i) m).map Wd.cs)),(12,.lst 1 (l.map srow)),(13,.int .i64 l.length),(14,.int .i64 i)]) (λi c=>tokS c 64 (i*4)) none trivial (Weak.of (by simp[cQ,Env.get,AVle,aP,markW]) (SubN.refl _)) (by omega) (λi x r c hok hx hw=>?_) (λc hok hn=>?_))|fail))
 ·have hi:=hx.lt
  refine cV (n:=i) (m':=(i+1)*4) bI (by rw[length_map,bq,length_take];omega) rfl rfl rfl (by assumption) (by omega) (λgn=>?_)
  refine af hx gn trivial ?_
  rw[iJ a b l m hx,map_append]
  exact Weak.rfl' _ _
 ·rw[take_length]
  exact RET.mk (SubN.refl _) ⟨c,rfl,by rw[bq]⟩
theorem f102 (l:List (List UInt8)) (a b m:Int) (hl:l.length<1000000) (hm0:0<=m) (hm:m<1000000000000):Pure G Tryz.prog 102 [.lst 1 (l.map srow),.int .i64 a,.int .i64 b,.int .i64 m] (.lst 4 ((markW a b l m).map Wd.cs)):=
 aj.toPure (f102o G l a b m hl hm0 hm) (by rintro r σ' ⟨g,rfl,rfl⟩;exact LeRep.of (.inl (.inr ⟨rfl,rfl⟩)))
theorem f201 (l:List Wd) (hl:l.length<1000000):Pure G Tryz.prog 201 [.lst 4 (l.map Wd.cs)] (.lst 1 ((l.map Wd.text).map srow)):=by
 refine Pure.w c201 λR hR=>?_
 unfold s201 r201
 (repeat' (simp only[EVz,seval,↓reduceIte,EV6,EV7]))
 refine Zq (ι:=Option Nat) l (λi r c=>True) (λi c=>[(3,.own c 9 1 ((l.take i).map λw=>srow w.text)),(6,.lst 4 (l.map Wd.cs)),(7,.int .i64 l.length),(8,.int .i64 i)]) (λi c=>tokS c 9 (i*1)) none trivial (Weak.of (by simp[cQ,Env.get,AVle,aP]) (SubN.refl _)) (by omega) (λi x r c hok hx hw=>?_) (λc hok hn=>?_)
 ·have hi:=hx.lt
  (repeat' (first|simp only[EVz,seval,↓reduceIte,EV6,EV7,hx.yes,hx.le0,hx.lt',hx.row,hw,hx.get]|(with_reducible intro blk hblk;(try(have hnx:=hblk;simp only[EVK]at hnx;(have hne:=hnx))))|fail))
  refine cV (n:=i) (m':=(i+1)*1) (bT (by assumption)) (by rw[length_map,length_take];omega) rfl rfl rfl (by assumption) (by omega) (λgn=>?_)
  refine af hx gn trivial ?_
  simp only[hx.take,map_append,map_cons,map_nil,srow]
  exact Weak.rfl' _ _
 ·(repeat' (simp only[EVz,seval,↓reduceIte,EV6,EV7,hn]))
  exact hR _ _ (Or.inl (Or.inr ⟨rfl,by rw[take_length,map_map];rfl⟩))
theorem f211 (w row:List (List UInt8)) (hw:w.length<1000000) (hr:row.length<1000000) (hr0:row≠[]):Pure G Tryz.prog 211 [.lst 1 (w.map srow),.lst 1 (row.map srow)] (.lst 1 ((occL row 0 0 w).map λn:Nat=>[AV.int .i64 (n:Int)])):=by
 have hl1:1<=row.length:=by cases row<;>simp_all
 have e9:decide ((row.length:Int)=0)=false:=decide_eq_false (by omega)
 refine Pure.w c211 λR hR=>?_
 unfold s211 r211
 (repeat' (simp only[EVz,seval,↓reduceIte,EV6,EV7,e9]))
 refine iy (ι:=Nat×List Nat×Option Nat) (λp=>p.1<=w.length/\p.2.1.length<=p.1/\occL row 0 0 w=p.2.1++occL row 0 p.1 (w.drop p.1)) (λp=>w.length+1-p.1) (λp=>[(0,.lst 1 (w.map srow)),(1,.lst 1 (row.map srow)),(5,.own p.2.2 3 1 (p.2.1.map λn:Nat=>[AV.int .i64 (n:Int)])),(6,.int .i64 p.1)]) (λp=>tokS p.2.2 3 (p.2.1.length*1)) (0,[],none) ⟨by omega,by simp,by simp⟩ (Weak.of (by simp[cQ,Env.get,AVle,aP]) (SubN.refl _)) ?_
 rintro⟨i,l,c⟩ ⟨h1,h2,h3⟩
 simp only at h1 h2 h3 ⊢
 have w2:IntKind.i64.wrap ((i:Int)+(row.length:Int))=((i+row.length:Nat):Int):=by rw[au (by omega) (by omega)];omega
 by_cases hi:i+row.length<=w.length
 ·have e0:decide (((i+row.length:Nat):Int)<=(w.length:Int))=true:=decide_eq_true (by omega)
  have w1:IntKind.i64.wrap ((i:Int)+1)=((i+1:Nat):Int):=iQ (by omega)
  have hE:=f134 G ((w.drop i).take row.length) row (by rw[length_take];omega)
  have hsl:List.drop i (List.take (i+row.length) (w.map srow))=((w.drop i).take row.length).map srow:=by rw[drop_take,map_take,map_drop];congr 1;omega
  rcases Classical.em ((w.drop i).take row.length=row)with hm|hm
  ·rw[decide_eq_true hm]at hE
   rw[oa hr0 hm,drop_drop]at h3
   (repeat' (first|(with_reducible refine AI (by omega) ?_)|(with_reducible refine ab hE ?_)|simp only[EVz,seval,↓reduceIte,EV6,EV7,e0,w1,w2,hsl]|(with_reducible intro blk hblk;(try(have hnx:=hblk;simp only[EVK]at hnx;(have hne:=hnx))))|(refine⟨[[AV.int .i64 (i:Int)]],rfl,(by simp),(by simp),?_⟩)|(refine cH (by((simp only[length_map]<;>exact bT (by assumption)))) rfl rfl (by simp<;>omega) (λgn=>?_))|fail))
   refine⟨(i+row.length,l++[i],gn),⟨by simp only;omega,by simp only[length_append,length_cons,length_nil];omega,by simp only[append_assoc,cons_append,nil_append];exact h3⟩,by simp only;omega,?_⟩
   simp only[map_append,map_cons,map_nil,length_append,length_map,length_cons,length_nil]
   exact Weak.rfl' _ _
  ·rw[decide_eq_false hm]at hE
   rw[mp hm,drop_drop]at h3
   (repeat' (first|(with_reducible refine AI (by omega) ?_)|(with_reducible refine ab hE ?_)|simp only[EVz,seval,↓reduceIte,EV6,EV7,e0,w1,w2,hsl]|fail))
   exact⟨(i+1,l,c),⟨by simp only;omega,by simp only;omega,h3⟩,by simp only;omega,Weak.rfl' _ _⟩
 ·have e0:decide (((i+row.length:Nat):Int)<=(w.length:Int))=false:=decide_eq_false (by omega)
  have e2:occL row 0 i (w.drop i)=[]:=lB (by rw[length_drop];omega)
  rw[e2,append_nil]at h3
  (repeat' (simp only[EVz,seval,↓reduceIte,EV6,EV7,e0,w2]))
  exact hR _ _ (Or.inl (Or.inr ⟨rfl,by rw[h3]⟩))
end
def prow (n:Nat):List AV:=[.int .i64 n]
section
variable (G:Glob)
theorem f173 (w:List Wd) (row:List (List UInt8)) (nth:Int) (hw:w.length<1000000) (hr:row.length<1000000) (hr0:row≠[]) (hn:0<=nth) (hn2:nth<=1000000):Pure G Tryz.prog 173 [.lst 4 (w.map Wd.cs),.lst 1 (row.map srow),.int .i64 nth] (.lst 1 ((bH (occs w row) nth).map λn:Nat=>[AV.int .i64 (n:Int)])):=by
 have hS:=f201 G w hw
 have hF:=f211 G (w.map Wd.text) row (by rw[length_map];exact hw) hr hr0
 have hof:occL row 0 0 (w.map Wd.text)=occs w row:=rfl
 rw[hof]at hF
 refine Pure.w c173 λR hR=>?_
 unfold s173 r173
 obtain⟨ps,hps⟩:∃ps,occs w row=ps:=⟨_,rfl⟩
 rw[hps]at hR hF
 unfold bH at hR
 rcases Classical.em (nth=0)with h0|h0
 ·have e0:decide (nth=0)=true:=decide_eq_true h0
  rw[if_pos h0]at hR
  (repeat' (first|(with_reducible first|refine ab hS ?_|refine ab hF ?_)|simp only[EVz,seval,↓reduceIte,EV6,EV7,e0]|fail))
  exact hR _ _ (Or.inl (Or.inl rfl))
 ·have e0:decide (nth=0)=false:=decide_eq_false h0
  have w1:IntKind.i64.wrap (nth-1)=nth-1:=au (by omega) (by omega)
  rw[if_neg h0]at hR
  rcases Classical.em ((ps.length:Int)<nth)with h1|h1
  ·have e1:decide ((ps.length:Int)<nth)=true:=decide_eq_true h1
   have e2:ps[(nth-1).toNat]? =none:=getElem?_eq_none (by omega)
   rw[e2]at hR
   (repeat' (first|(with_reducible first|refine ab hS ?_|refine ab hF ?_)|simp only[EVz,seval,↓reduceIte,EV6,EV7,e0,e1]|fail))
   exact hR _ _ (Or.inl (Or.inr rfl))
  ·have e1:decide ((ps.length:Int)<nth)=false:=decide_eq_false h1
   have hlt:(nth-1).toNat<ps.length:=by omega
   have e2:ps[(nth-1).toNat]? =some ps[(nth-1).toNat]:=getElem?_eq_getElem hlt
   rw[e2]at hR
   have e3:List.drop (nth-1).toNat (List.take nth.toNat (ps.map λn:Nat=>[AV.int .i64 (n:Int)]))=[[AV.int .i64 ((ps[(nth-1).toNat]:Nat):Int)]]:=by
    rw[show nth.toNat=(nth-1).toNat+1 by omega,take_add_one,getElem?_map,e2,drop_append_of_le_length (by simp;omega),drop_eq_nil_of_le (by simp;omega)]
    rfl
   (repeat' (first|(with_reducible refine AI (by omega) ?_)|(with_reducible first|refine ab hS ?_|refine ab hF ?_)|simp only[EVz,seval,↓reduceIte,EV6,EV7,e0,e1,w1,e3]|fail))
   exact hR _ _ (Or.inl (Or.inl rfl))
abbrev stp4 (a b n m:Int):List AV:=[.int .i64 a,.int .i64 b,.int .i64 n,.int .i64 m]
set_option maxHeartbeats 1000000 in
theorem f153 (bs:Nat) (l:List Wd) (a b n m:Int) (hl:l.length<1000000) (hm0:0<=m) (hm:m<1000000000000):
  aj G Tryz.prog 153 [.sc (.pointer (some ⟨bs,0,none⟩)),.lst 4 (l.map Wd.cs)] [(bs,.cells 124 (stp4 a b n m))] λr σ'=>r= .lst 4 ((markW a b (l.map Wd.text) m).map Wd.cs)/\σ'=[(bs,.cells 124 (stp4 a b n (m+l.length)))]:=by
 have hS:=f201 G l hl
 have hM:=f102 G (l.map Wd.text) a b m (by rw[length_map];exact hl) hm0 hm
 have hml:(markW a b (l.map Wd.text) m).length=l.length:=by rw[bq,length_map]
 have w1:IntKind.i64.wrap (m+(l.length:Int))=m+l.length:=au (by omega) (by omega)
 refine aj.w c153 ?_
 unfold s153 r153 stp4
 (repeat' (first|(with_reducible first|refine ab hS ?_|refine ab hM ?_)|simp only[EVz,seval,↓reduceIte,EV6,EV7,hml,w1]|(with_reducible refine ak ?_ ?_)|(with_reducible refine am ?_)|fail))
 all_goals exact RET.mk (SubN.refl _) ⟨rfl,rfl⟩
end
section
variable (G:Glob)
end
section
variable (G:Glob)
set_option maxHeartbeats 2000000 in
theorem f80 (bs:Nat) (a b:Int):∀(u:U),u.Short->∀n m:Int,0<=n->0<=m->n+1+u.flat.length<=100000000000->m+u.wt<=100000000000->
  aj G Tryz.prog 80 [.sc (.pointer (some ⟨bs,0,none⟩)),.agg u.cs] [(bs,.cells 124 (stp4 a b n m))] λr σ'=>r= .agg (U.stamp a b u (n+1) m).1.cs/\
   σ'=[(bs,.cells 124 (stp4 a b ((U.stamp a b u (n+1) m).2.1-1) (U.stamp a b u (n+1) m).2.2))]:=by
 refine U.ind λu ih hs n m hn0 hm0 hnb hmb=>?_
 have hkl:=hs.1.kids
 have hu:=hs.2 u u.flat_self
 rw[U.flat_eq,length_cons]at hnb
 rw[U.wt_eq]at hmb
 have hR1:=f153 G bs u.head a b (n+1) m hu.2.1 hm0 (by omega)
 have hR2:=f153 G bs u.words a b (n+1) (m+u.head.length) hu.2.2.1 (by omega) (by omega)
 have w1:IntKind.i64.wrap (n+1)=n+1:=au (by omega) (by omega)
 obtain⟨w,hw⟩:∃w,U.stamp a b u (n+1) m=w:=⟨_,rfl⟩
 rw[hw]
 refine aj.freezeK (R1:=λσ'=>σ'=[(bs,.cells 124 (stp4 a b (w.2.1-1) w.2.2))]) ?_
 refine aj.w c80 ?_
 unfold s80 r80
 rw[U.stamp_eq]at hw
 have hfit:0+u.kids.length*8<=(List.replicate u.kids.length zU).flatten.length:=by rw[cn];simp[zU]
 have hfl:(u.kids.map U.cs).flatten.length=u.kids.length*8:=by rw[ax _ (jr _),length_map]
 have hspl:aH (List.replicate u.kids.length zU).flatten 0 ((u.kids.map U.cs).take u.kids.length).flatten=(u.kids.map U.cs).flatten:=by
  rw[take_of_length_le (by simp),aV _ _ _ (by rw[hfl];exact hfit),drop_eq_nil_of_le (by rw[hfl,cn];simp[zU])]
  simp
 obtain⟨n1,hn1⟩:∃n1,n+1+1=n1:=⟨_,rfl⟩
 obtain⟨m1,hm1⟩:∃m1,m+(u.head.length:Int)+(u.words.length:Int)=m1:=⟨_,rfl⟩
 rw[hn1,hm1]at hw
 obtain⟨S,hS⟩:∃S:Nat->List U×Int×Int,S=λi=>U.stamps a b (u.kids.take i) n1 m1:=⟨_,rfl⟩
 have hSn:∀i,(S i).2.1=n1+(U.flats (u.kids.take i)).length/\(S i).2.2=m1+U.wts (u.kids.take i)/\(S i).1.length=(u.kids.take i).length:=λi=>by rw[hS];exact gA a b _ n1 m1
 obtain⟨L,hL⟩:∃L:Nat->List (List AV),L=λi=>((S i).1++u.kids.drop i).map U.cs:=⟨_,rfl⟩
 have hS0:S 0=([],n1,m1):=by rw[hS];simp only[take_zero,U.stamps_nil]
 have hL0:(L 0).flatten=(u.kids.map U.cs).flatten:=by rw[hL];simp only[hS0,nil_append,drop_zero]
 have hst0:stp4 a b ((S 0).2.1-1) (S 0).2.2=stp4 a b (n+1) (m+(u.head.length:Int)+(u.words.length:Int)):=by
  rw[hS0]
  show stp4 a b (n1-1) m1=_
  rw[hm1,←hn1]
  congr 1
  omega
 have hLr:∀i,∀r∈L i,r.length=8:=λi=>by rw[hL];exact jr _
 have hLl:∀i,i<=u.kids.length->(L i).length=u.kids.length:=λi hi=>by
  rw[hL]
  simp only[length_map,length_append,length_drop,(hSn i).2.2,length_take]
  omega
 have hLf:∀i,i<=u.kids.length->(L i).flatten.length=u.kids.length*8:=λi hi=>by rw[ax _ (hLr i),hLl i hi]
 rw[U.cs_eq u]
 (repeat' (first|simp only[EVz,seval,↓reduceIte,EV6,EV7,w1,hne]|simp only[EVz,seval,↓reduceIte,EV6,EV7,w1]|(with_reducible intro blk hblk;(try(have hnx:=hblk;simp only[EVK]at hnx;first|(have hne:=AI hnx hne)|(have hne:=hnx))))|(with_reducible refine ak ?_ ?_)|(with_reducible refine am ?_)|(refine az [(bs,_)] [(_,_),(_,_)] hR1.v (aB.rfl' _) (SubN.perm (perm_append_comm (l₁:=[_]) (l₂:=[_,_]))) (λr1 σ1 h1 hne=>?_))|(obtain⟨rfl,rfl⟩:=h1)|(simp[Store.keys]at hne)|(refine az [(bs,_)] [(_,_),(_,_)] hR2.v (aB.rfl' _) (SubN.refl _) (λr2 σ2 h1 hne=>?_))|(refine jq (elem:=27) (c:=u.kids.length) (sz:=8) (bytes:=120) (zr:=zU) (z:=.agg #[.int .i64 0,.int .i64 0,.int .i64 0,.int .i64 0,.string .empty,.slice none 0 0,.slice none 0 0,.slice none 0 0]) rfl (by kernel_rfl) (by kernel_rfl) rfl (by omega) (by decide) (by intro τ w;simp[zU,RepL,Rep,Value.cells];rfl) (by omega) (by omega) ?_)|(refine Zw (elem:=27) (sz:=8) (ys:=u.kids.map U.cs) u.kids.length (u.kids.map U.cs).flatten (by kernel_rfl) (by kernel_rfl) rfl (if_pos rfl) (.inl ⟨rfl,rfl⟩) (by simp) hfit hspl ?_)|fail))
 all_goals
  rename_i b3 _ _ _ b4 _ _ _ _ _
  have q1:¬bs=blk:=λe=>hne.1.1 e.symm
  have q2:¬b4=blk:=λe=>hne.1.2.1 e.symm
  have q3:¬b3=blk:=λe=>hne.1.2.2 e.symm
  refine Zq u.kids (λi r (c:Unit)=>True) (λi c=>[(0,.sc (.pointer (some ⟨bs,0,none⟩))),(3,.sc (.pointer (some ⟨b3,0,none⟩))),(4,.sc (.pointer (some ⟨b4,0,none⟩))),(5,.sc (.slice (some ⟨blk,0,none⟩) u.kids.length u.kids.length)),(47,.int .i64 u.kids.length),(48,.int .i64 i)])
   (λi c=>[(blk,.cells 27 (L i).flatten),(bs,.cells 124 (stp4 a b ((S i).2.1-1) (S i).2.2)),(b4,.cells 27 zU),(b3,.cells 27 [.int .i64 a,.int .i64 b,.int .i64 (n+1),.int .i64 u.kind,.str u.label,.lst 4 ((markW a b (u.head.map Wd.text) m).map Wd.cs),.lst 4 ((markW a b (u.words.map Wd.text) (m+u.head.length)).map Wd.cs),.lst 8 (u.kids.map U.cs)])]) () trivial (by rw[hL0,hst0];exact Weak.rfl' _ _) (by omega) (λi k r c _ hx hw=>?_) (λc _ hn=>?_)
  ·obtain⟨s1,s2,s3⟩:=hSn i
   obtain⟨t1,t2,t3⟩:=hSn (i+1)
   have hil:=hx.lt
   have hfl:(U.flats (u.kids.take (i+1))).length<=(U.flats u.kids).length:=by
    conv=>rhs;rw[←take_append_drop (i+1) u.kids,cv,length_append]
    omega
   have hwl:U.wts (u.kids.take (i+1))<=U.wts u.kids:=by
    conv=>rhs;rw[←take_append_drop (i+1) u.kids,U.wts_app]
    omega
   have hfl2:(U.flats (u.kids.take (i+1))).length=(U.flats (u.kids.take i)).length+k.flat.length:=by rw[hx.take,cv,aD,bt];simp
   have hwl2:U.wts (u.kids.take (i+1))=U.wts (u.kids.take i)+k.wt:=by rw[hx.take,U.wts_app,U.wts_cons,U.wts_nil];simp
   have hih:=ih k hx.mem (hs.kid hx.mem) ((S i).2.1-1) (S i).2.2 (by omega) (by omega) (by omega) (by omega)
   rw[show(S i).2.1-1+1=(S i).2.1 by omega]at hih
   have hSs:S (i+1)=((S i).1++[(U.stamp a b k (S i).2.1 (S i).2.2).1],(U.stamp a b k (S i).2.1 (S i).2.2).2):=by
    simp only[hS]
    rw[hx.take,iL]
   have hgk:(L i)[i]? =some k.cs:=by
    rw[hL]
    simp only[getElem?_map]
    rw[getElem?_append_right (by rw[s3,length_take];omega),s3,length_take,Nat.min_eq_left (by omega),Nat.sub_self,getElem?_drop,Nat.add_zero,getElem?_eq_getElem hil,←hx.get k]
    simp[hil]
   have hgt:((L i).flatten.drop (0+i*8)).take 8=k.cs:=by simpa using ny (pad:=[]) (hLr i) hgk
   have hle8:8<=((L i).flatten.drop (0+i*8)).length:=by rw[length_drop,hLf i (by omega)];omega
   have hLs:L (i+1)=(L i).set i (U.stamp a b k (S i).2.1 (S i).2.2).1.cs:=by
    have h3:u.kids.drop i=k::u.kids.drop (i+1):=by
     rw[drop_eq_getElem_cons hil]
     congr 1
     simpa[hil]using hx.get k
    have htl:(S i).1.length=i:=by rw[s3,length_take];omega
    rw[hL]
    simp only[hSs]
    rw[h3]
    simp only[map_append,map_cons,map_nil]
    rw[set_append_right _ _ (by simp[htl])]
    simp[htl]
   have hset:aH (L i).flatten (0+i*8) (U.stamp a b k (S i).2.1 (S i).2.2).1.cs=(L (i+1)).flatten:=by
    rw[hLs]
    rw[Nat.zero_add]
    simpa using nr (pad:=[]) (hLr i) (by rw[hLl i (by omega)];omega) (U.cs_len _)
   have hlf:=hLf i (by omega)
   (repeat' (first|(with_reducible refine AI (by omega) ?_)|simp only[EVz,seval,↓reduceIte,EV6,EV7,hx.yes,hx.le0,hx.lt',hx.get,hw,hgt,q1,q2,q3,hset,hne]|(refine az [(bs,_)] [(blk,_),(b4,_),(b3,_)] hih.v (aB.rfl' _) (SubN.perm (List.Perm.swap _ _ _)) (λr1 σ1 h1 hne2=>?_))|(obtain⟨rfl,rfl⟩:=h1)|fail))
   all_goals
    refine af hx () trivial ?_
    rw[hSs]
    exact Weak.sub (SubN.perm (List.Perm.swap _ _ _))
  ·have hnS:S u.kids.length=U.stamps a b u.kids n1 m1:=by simp only[hS];rw[take_length]
   have hLn:L u.kids.length=(U.stamps a b u.kids n1 m1).1.map U.cs:=by rw[hL];simp only[hnS,drop_length,append_nil]
   have hkn:(U.stamps a b u.kids n1 m1).1.length=u.kids.length:=(gA a b u.kids n1 m1).2.2
   have p1:¬blk=b4:=hne.1.2.1
   have p2:¬blk=b3:=hne.1.2.2
   have p3:¬bs=b4:=hne.2.1.1
   have p4:¬bs=b3:=hne.2.1.2
   have p5:¬b4=b3:=hne.2.2
   (repeat' (simp only[EVz,seval,↓reduceIte,EV6,EV7,hn,q1,q2,q3,p1,p2,p3,p4,p5,hne]))
   refine RET.mk' (σ':=[(blk,.cells 27 (L u.kids.length).flatten)]++[(bs,.cells 124 (stp4 a b ((S u.kids.length).2.1-1) (S u.kids.length).2.2))]) (SubN.left (σ:=[_,_]) (τ:=[_,_])) ⟨_,_,_,rfl,?_,rfl,?_⟩
   ·rw[←hw,U.cs_eq]
    exact⟨.inl rfl,.inl rfl,.inl rfl,.inl rfl,.inl rfl,.inl rfl,.inl rfl,.inr ⟨27,8,L u.kids.length,_,bR.mk0 (hLl _ (Nat.le_refl _)).symm (by rw[hLl _ (Nat.le_refl _)];unfold maxLen;omega) (hLr _),λq hq=>hq,by rw[hLn]⟩,trivial⟩
   ·rw[hnS,←hw]
theorem f43 (u:U) (a b:Int) (hs:u.Short) (hw:u.wt<=90000000000):Pure G Tryz.prog 43 [.agg u.cs,.int .i64 a,.int .i64 b] (.agg (stampU u a b).cs):=by
 have hc:=hs.1.2
 refine Pure.w c43 λR hR=>?_
 unfold s43 r43
 (repeat' (first|simp only[EVz,seval,↓reduceIte,EV6,EV7,hne]|simp only[EVz,seval,↓reduceIte,EV6,EV7]|(with_reducible intro blk hblk;(try(have hnx:=hblk;simp only[EVK]at hnx;first|(have hne:=AI hnx hne)|(have hne:=hnx))))|(refine az [(_,_)] [(_,_)] (f80 G _ a b u hs 0 0 (by omega) (by omega) (by omega) (by omega)).v (aB.rfl' _) (SubN.refl _) (λr1 σ1 h1 hne=>?_))|(obtain⟨rfl,rfl⟩:=h1)|(simp[Store.keys]at hne)|fail))
 exact RET.eq hR rfl
end
end Go.Av
