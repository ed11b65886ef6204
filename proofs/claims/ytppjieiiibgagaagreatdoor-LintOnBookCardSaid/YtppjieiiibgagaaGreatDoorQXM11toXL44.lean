/-
  ENACT, M11: words edited by the reference.
-/
import Derived.Test.YtppjieiiibgagaaGreatDoorQXM9toXM10
import Derived.Test.YtppjieiiibgagaaGreatDoorQXL19toXL25
import Derived.Test.YtppjieiiibgagaaGreatDoorQXE8toXE10
import Derived.Test.YtppjieiiibgagaaGreatDoorQXL39toXL43
set_option linter.all false
namespace Go.Av
open Go Go.RowKit Go.Proofs List
section
variable (G:Glob)
def OwnW (l:List Wd) (r:AV) (σ:Store):Prop:=∃g,r= .own g 118 4 (l.map Wd.cs)/\σ=tokS g 118 (l.length*4)
def f87o (l:List (List UInt8)) (a b m:Int) (X:l.length<1000000) (N:0<=m) (Y:m<1000000000000):aj G Tryz.prog 87 [.lst 1 (l.map srow),.i a,.i b,.i m] [] (OwnW (aL a b l m)):=by
 refine aj.w c87 ?_;unfold s87 r87;(repeat' (first|simp only[EV,seval,D.yes,D.le0,D.lt',D.get,D.row,V,av (x:=m+(i:Int)) (by omega) (by have:=D.lt;omega)]|simp only[EV,seval,O]|simp only[EV,seval]|(with_reducible intro I E;(try(have F:=E;simp only[EVK]at F;(have T:=F))))|(refine⟨[],rfl,(by simp),rfl,?_⟩)|(refine ap (ι:=Option Nat) l (λi r c=>True) (λi c=>[(0,.lst 1 (l.map srow)),(1,.i a),(2,.i b),(3,.i m),(9,.own c 118 4 ((aL a b (l.take i) m).map Wd.cs)),(10,.i i)]) (λi c=>tokS c 118 (i*4)) (some I) trivial (dT _ _) (by omega) (λi x r c J D V=>?_) (λc J O=>?_))|fail))
 ·have hi:=D.lt;refine aZ (n:=i) (m':=(i+1)*4) aS (by rw[length_map,bG,length_take];omega) rfl rfl rfl (by assumption) (by omega) (λM=>?_);refine ak D M trivial ?_;rw[i8 a b l m D,map_append];exact dT _ _
 ·rw[take_length];exact RET.mk (SubN.refl _) ⟨c,rfl,by rw[bG]⟩
end
def selP (nth:Int) (i:Nat) (r:List Nat):List Nat:=if nth=0 then r else if (i:Int)<nth then (match r[(nth-1-i).toNat]? with
 |some p=>[p]
 |none=>[])else []
def selP_zero (nth:Int) (r:List Nat) (h:0<=nth):selP nth 0 r=bP r nth:=by
 unfold selP bP;by_cases D:nth=0
 ·rw[if_pos D,if_pos D]
 ·rw[if_neg D,if_neg D,if_pos (by omega),show(nth-1-((0:Nat):Int)).toNat=(nth-1).toNat by simp]
  cases r[(nth-1).toNat]? <;>rfl
def selP_all {i:Nat} {x:Nat} {r:List Nat}:selP 0 i (x::r)=x::selP 0 (i+1) r:=by simp[selP]
def selP_this {nth:Int} {i:Nat} {x:Nat} {r:List Nat} (h:nth=(i:Int)+1):selP nth i (x::r)=x::selP nth (i+1) r:=by
 unfold selP;rw[if_neg (by omega),if_pos (by omega),if_neg (by omega),if_neg (by omega),show(nth-1-(i:Int)).toNat=0 by omega];rfl
def qG {nth:Int} {i:Nat} {x:Nat} {r:List Nat} (D:nth≠0) (h:nth≠(i:Int)+1):selP nth i (x::r)=selP nth (i+1) r:=by
 unfold selP;rw[if_neg D,if_neg D];by_cases hi:(i:Int)<nth
 ·rw[if_pos hi,if_pos (by omega),show(nth-1-(i:Int)).toNat=(nth-1-((i+1:Nat):Int)).toNat+1 by omega];rfl
 ·rw[if_neg hi,if_neg (by omega)]
def fz {n len:Nat} (D:1<=len):∀{ps:List Nat} {s:Nat},s<=n->Gaps n len s ps->s+ps.length<=n
 |[],s,h,_=>by simpa using h
 |p::ps,s,h,⟨h1,h2,h3⟩=>by
  have:=fz D h2 h3;rw[length_cons];omega
def lI {ps:List Nat} {nth:Int} (E:0<=nth):bP ps nth=[]↔ps=[]\/(ps.length:Int)<nth:=by
 unfold bP;by_cases h:nth=0
 ·rw[if_pos h];constructor
  ·exact .inl
  ·rintro(e|e)
   ·exact e
   ·omega
 ·rw[if_neg h]
  cases D:ps[(nth-1).toNat]? with
  |none=>
   have:=List.getElem?_eq_none_iff.1 D;simp only[true_iff];exact .inr (by omega)
  |some p=>
   have:=(List.getElem?_eq_some_iff.1 D).1;simp only[cons_ne_nil,false_iff,not_or];exact⟨by rintro rfl;simp at this,by omega⟩
def tgt (w:List Wd) (x:Itm) (a b:Int) (s:Nat) (ps:List Nat) (m:Int):List Wd:=if x.kind=3 then dK w x.new a b 0 s (ps.map (· +x.old.length)) m else dK w x.new a b x.old.length s ps m
def tgt_nil (w:List Wd) (x:Itm) (a b:Int) (s:Nat) (m:Int):tgt w x a b s [] m=w.drop s:=by unfold tgt;split<;>simp[dK]
def m8 {w:List Wd} {s p q:Nat} (I:s<=p) (J:p<=q) (M:q<=w.length):(w.take q).drop s=(w.take p).drop s++(w.take q).drop p:=by
 obtain⟨k,rfl⟩:∃k,p=s+k:=⟨p-s,by omega⟩;obtain⟨j,rfl⟩:∃j,q=s+k+j:=⟨q-(s+k),by omega⟩
 have D:(w.take (s+k+j)).drop s=(w.drop s).take (k+j):=by rw[drop_take];congr 1;omega
 have E:(w.take (s+k)).drop s=(w.drop s).take k:=by rw[drop_take];congr 1;omega
 have F:(w.take (s+k+j)).drop (s+k)=((w.drop s).drop k).take j:=by rw[drop_take,drop_drop];congr 1;omega
 rw[D,E,F,take_add]
def tgt_cons {w:List Wd} {x:Itm} {a b:Int} {s p:Nat} {ps:List Nat} {m:Int} (D:s<=p) (E:p+x.old.length<=w.length):tgt w x a b s (p::ps) m=
  (w.take p).drop s++((if x.kind=3 then (w.take (p+x.old.length)).drop p else [])++(aL a b x.new m++tgt w x a b (p+x.old.length) ps (m+x.new.length))):=by
 unfold tgt
 by_cases h:x.kind=3
 ·rw[if_pos h,if_pos h,if_pos h,map_cons,dK,m8 D (Nat.le_add_right _ _) E]
  simp[append_assoc]
 ·rw[if_neg h,if_neg h,if_neg h,dK]
  simp
def tgt_len {w:List Wd} {x:Itm} {a b:Int}:∀{ps:List Nat} {s:Nat} {m:Int},Gaps w.length x.old.length s ps->s<=w.length->(tgt w x a b s ps m).length<=w.length+ps.length*x.new.length
 |ps,s,m,h,hs=>by
  unfold tgt;split
  ·have:=kt w x.new a b 0 (ps.map (· +x.old.length)) s m (gC h) hs;rw[length_map]at this;omega
  ·have:=kt w x.new a b x.old.length ps s m h hs;omega
def editE_tgt (w:List Wd) (x:Itm) (a b:Int) (h:¬(x.kind=3/\x.old=[])) (E:¬bP (occs w x.old) x.nth=[]):bu w x a b=if 256<(tgt w x a b 0 (bP (occs w x.old) x.nth) 0).length then ([],6)else (tgt w x a b 0 (bP (occs w x.old) x.nth) 0,0):=by
 unfold bu tgt;rw[if_neg h,if_neg E];by_cases D:x.kind=3
 ·simp only[D,if_true]
 ·simp only[D,if_false]
def selP_nil (nth:Int) (i:Nat):selP nth i []=[]:=by unfold selP;split<;>(try split)<;>simp
def fS (q:List Wd×Int):AV:=.tup [.lst 4 (q.1.map Wd.cs),.i q.2]
section
variable (G:Glob)
set_option maxHeartbeats 1000000 in
def f86 (w:List Wd) (x:Itm) (a b:Int) (hw:w.length<=256) (hn:x.new.length<=256) (ho:x.old.length<=256) (hk:x.kind=2\/x.kind=3) (h2:x.kind=2->x.old≠[]) (ah:0<=x.nth/\x.nth<=256) (h3:x.kind=3->x.old=[]->x.nth=0):
  Pure G Tryz.prog 86 [.lst 4 (w.map Wd.cs),.agg x.cs,.i a,.i b] (fS (bu w x a b)):=by
 refine tJ (R:=λr _=>LeRep r (fS (bu w x a b))) (aj.w c86 ?_) (λr σ' h=>h)
 unfold s86 r86
 by_cases hc:x.kind=3/\x.old=[]
 ·have hM:=f87o G x.new a b 0 (by omega) (by decide) (by decide)
  have e0:decide (x.kind=3)=true:=decide_eq_true hc.1;have e1:decide ((x.old.length:Int)=0)=true:=decide_eq_true (by rw[hc.2];rfl);unfold bu;rw[if_pos hc];have bm:(aL a b x.new 0).length=x.new.length:=bG a b x.new 0;(try simp only[EV,seval,e0,e1]);refine aB [] _ hM.v (hU _) (SubN.refl _) ?_;rintro _ _ ⟨g,rfl,rfl⟩ cp;(repeat' (first|(with_reducible (refine ae (λh=>?_) λh=>?_)<;>(try simp only[DZ]at h))|simp only[EV,seval,e0,e1]|(refine cx (by((simp only[length_map]<;>exact aS))) rfl rfl (by simp<;>omega) (λgn=>?_))|fail))
  ·rw[if_pos (by simp at h ⊢;omega)];exact RET.any (LeRep.tup (.cons (LeRep.of (.inl (.inr rfl))) (.cons (.refl _) .nil)))
  ·rw[if_neg (by simp at h ⊢;omega)];exact RET.any (LeRep.tup (.cons (LeRep.of (.inl (.inr ⟨rfl,by rw[map_append]⟩))) (.cons (.refl _) .nil)))
 ·have I:x.old≠[]:=by
   rcases hk with hk|hk
   ·exact h2 hk
   ·exact λe=>hc ⟨hk,e⟩
  have hP:=f149 G w x.old (by omega) (by omega) I;have X:=ga (w:=w) I
  have V:1<=x.old.length:=by cases E:x.old<;>simp_all
  have O:=editE_tgt w x a b hc
  have F:bP (occs w x.old) x.nth=[]->bu w x a b=([],4):=λh=>by unfold bu;rw[if_neg hc,if_pos h]
  obtain⟨ps,bs⟩:∃ps,occs w x.old=ps:=⟨_,rfl⟩;rw[bs]at hP X O F
  have be:ps.length<=w.length:=by have:=fz V (Nat.zero_le _) X;omega
  have bx:(decide (x.kind=3)&&decide ((x.old.length:Int)=0))=false:=by
   rw[Bool.and_eq_false_iff];exact .inr (decide_eq_false (by omega))
  have aw:decide ((x.old.length:Int)=0)=false:=decide_eq_false (by omega);by_cases D:bP ps x.nth=[]
  ·rw[F D];have bd:=(lI ah.1).1 D;have bw:ps.length=0\/(ps.length:Int)<x.nth:=bd.imp (λe=>by rw[e];rfl) id;clear bd O F X;(repeat' (first|(with_reducible (first|refine ae (λh=>?_) λh=>?_|refine af (λh=>?_) λh=>?_)<;>(try simp only[DZ]at h))|(with_reducible refine ab hP ?_)|simp only[EV,seval,aw]|(with_reducible intro an J;(try(have M:=J;simp only[EVK]at M;(have bn:=M))))|(exfalso;omega)|fail))
   all_goals exact RET.any (LeRep.tup (.cons (LeRep.of (.inl (.inr rfl))) (.cons (.refl _) .nil)))
  ·rw[O D];have bb:¬(ps.length=0\/(ps.length:Int)<x.nth):=λh=>D ((lI ah.1).2 (h.imp (λe=>eq_nil_of_length_eq_zero e) id));have c1:decide ((ps.length:Int)=0)=false:=decide_eq_false (by omega);have c2:decide ((ps.length:Int)<x.nth)=false:=decide_eq_false (by omega);have N:=selP_zero x.nth ps ah.1;have Y:=tgt_len (a:=a) (b:=b) (m:=0) (dL (nth:=x.nth) X) (Nat.zero_le _)
   have Z:(bP ps x.nth).length<=256:=by
    have:=fz V (Nat.zero_le _) (dL (nth:=x.nth) X);omega
   obtain⟨T,hT⟩:∃T,tgt w x a b 0 (bP ps x.nth) 0=T:=⟨_,rfl⟩;rw[hT]at Y ⊢;have bk:T.length<=65792:=Nat.le_trans Y (Nat.add_le_add hw (Nat.mul_le_mul Z hn));clear O F Y D;(repeat' (first|(with_reducible (refine af (λh=>?_) λh=>?_)<;>(try simp only[DZ]at h))|(with_reducible refine ab hP ?_)|simp only[EV,seval,aw,c1,c2]|(with_reducible intro an J;(try(have M:=J;simp only[EVK]at M;(have bn:=M))))|(refine⟨[],rfl,(by simp),rfl,?_⟩)|fail))
   all_goals
    refine ap (ι:=List Wd×Nat×Int×Option Nat) ps (λi r c=>T=c.1++tgt w x a b c.2.1 (selP x.nth i r) c.2.2.1/\Gaps w.length x.old.length c.2.1 r/\c.2.1<=w.length/\0<=c.2.2.1/\c.2.2.1<=256*(i:Int)) (λi c=>[(0,.lst 4 (w.map Wd.cs)),(2,.i a),(3,.i b),(5,.ref x.cs),(11,.lst 1 (ps.map λn:Nat=>[AV.int .i64 (n:Int)])),(12,.own c.2.2.2 118 4 (c.1.map Wd.cs)),(13,.i c.2.1),(14,.i c.2.2.1),(15,.i i)]) (λi c=>tokS c.2.2.2 118 (c.1.length*4)) ([],0,0,some an) ⟨by rw[N,hT];rfl,X,Nat.zero_le _,Int.le_refl 0,Int.le_refl 0⟩ (dT _ _) (by omega) (λi p r c aa E al=>?_) (λc aa bo=>?_)
    ·obtain⟨L,st,m,g⟩:=c
     obtain⟨k1,k2,k3,k4,k5⟩:=aa;simp only at k1 k2 k3 k4 k5 ⊢;have cm:=E.lt
     have bh:L.length<=65792:=by
      have:=congrArg List.length k1;rw[length_append]at this;omega
     obtain⟨g1,g2,g3⟩:=k2;have hM:=f87 G x.new a b m (by omega) k4 (by omega)
     have wp:IntKind.i64.wrap ((p:Int)+(x.old.length:Int))=((p+x.old.length:Nat):Int):=by rw[av (by omega) (by omega)];omega
     have wm:IntKind.i64.wrap (m+(x.new.length:Int))=m+x.new.length:=av (by omega) (by omega);have ac:=E.row (λn:Nat=>[AV.int .i64 (n:Int)]) [];have bm:(aL a b x.new m).length=x.new.length:=bG a b x.new m;clear hT N Z be V I X bb bk
     rcases Classical.em (x.nth=0\/x.nth=(i:Int)+1)with hs|hs
     ·have ad:selP x.nth i (p::r)=p::selP x.nth (i+1) r:=by
       rcases hs with h|h
       ·rw[h];exact selP_all
       ·exact selP_this h
      rw[ad,tgt_cons g1 g2]at k1
      rcases Classical.em (x.kind=3)with hk3|hk3
      ·have e4:decide (x.kind=3)=true:=decide_eq_true hk3;rw[if_pos hk3]at k1;(repeat' (first|(with_reducible (first|refine ae (λh=>?_) λh=>?_|refine af (λh=>?_) λh=>?_)<;>(try simp only[DZ]at h))|(with_reducible first|refine AI (by omega) ?_|refine ab hM ?_)|simp only[EV,seval,E.yes,E.le0,E.lt',ac,al,wp,wm,e4]|(refine cx (by first|exact aS|(simp only[length_map]<;>exact aS)) rfl rfl (by simp<;>omega) (λgn=>?_))|(exfalso;omega)|fail))
       all_goals
        refine ak E (L++((w.take p).drop st++((w.take (p+x.old.length)).drop p++aL a b x.new m)),p+x.old.length,m+x.new.length,gn) ⟨by rw[k1];simp only[append_assoc],g3,g2,by simp only;omega,by simp only;omega⟩ ?_
        rw[show(L.map Wd.cs++List.drop st (List.take p (w.map Wd.cs))++List.drop p (List.take (p+x.old.length) (w.map Wd.cs))++(aL a b x.new m).map Wd.cs)=(L++((w.take p).drop st++((w.take (p+x.old.length)).drop p++aL a b x.new m))).map Wd.cs by simp only[map_append,map_take,map_drop,append_assoc],length_map]
        exact Weak.of (by simp[cj,Env.get,AVle,aH]) (SubN.refl _)
      ·have e4:decide (x.kind=3)=false:=decide_eq_false hk3;rw[if_neg hk3,nil_append]at k1;(repeat' (first|(with_reducible (first|refine ae (λh=>?_) λh=>?_|refine af (λh=>?_) λh=>?_)<;>(try simp only[DZ]at h))|(with_reducible first|refine AI (by omega) ?_|refine ab hM ?_)|simp only[EV,seval,E.yes,E.le0,E.lt',ac,al,wp,wm,e4]|(refine cx (by first|exact aS|(simp only[length_map]<;>exact aS)) rfl rfl (by simp<;>omega) (λgn=>?_))|(exfalso;omega)|fail))
       all_goals
        refine ak E (L++((w.take p).drop st++aL a b x.new m),p+x.old.length,m+x.new.length,gn) ⟨by rw[k1];simp only[append_assoc],g3,g2,by simp only;omega,by simp only;omega⟩ ?_
        rw[show(L.map Wd.cs++List.drop st (List.take p (w.map Wd.cs))++(aL a b x.new m).map Wd.cs)=(L++((w.take p).drop st++aL a b x.new m)).map Wd.cs by simp only[map_append,map_take,map_drop,append_assoc],length_map]
        exact Weak.of (by simp[cj,Env.get,AVle,aH]) (SubN.refl _)
     ·have ad:selP x.nth i (p::r)=selP x.nth (i+1) r:=qG (λh=>hs (.inl h)) λh=>hs (.inr h);rw[ad]at k1;(repeat' (first|(with_reducible (first|refine ae (λh=>?_) λh=>?_|refine af (λh=>?_) λh=>?_)<;>(try simp only[DZ]at h))|(with_reducible refine AI (by omega) ?_)|simp only[EV,seval,E.yes,E.le0,E.lt',ac,al,wp,wm]|(exfalso;omega)|fail))
      all_goals exact ak E (L,st,m,g) ⟨k1,g3.from (show st<=p+x.old.length by omega),k3,k4,by simp only;omega⟩ (Weak.of (by simp[cj,Env.get,AVle,aH]) (SubN.refl _))
    ·obtain⟨L,st,m,g⟩:=c
     obtain⟨k1,k2,k3,k4,k5⟩:=aa;simp only at k1 k2 k3 k4 k5 ⊢;rw[selP_nil,tgt_nil]at k1
     have bh:L.length<=65792:=by
      have:=congrArg List.length k1;rw[length_append]at this;omega
     have ch:(w.drop st).length<=256:=by rw[length_drop];omega
     clear hT N Z be V I X bb;(repeat' (first|(with_reducible (refine ae (λh=>?_) λh=>?_)<;>(try simp only[DZ]at h))|(with_reducible refine AI (by omega) ?_)|simp only[EV,seval,bo]|(refine cx (by((simp only[length_map]<;>exact aS))) rfl rfl (by simp<;>omega) (λgn=>?_))|fail))
     all_goals
      have e:L.map Wd.cs++List.drop st (List.take w.length (w.map Wd.cs))=T.map Wd.cs:=by rw[k1,take_of_length_le (by simp),map_append,map_drop]
      rw[e,length_map]at h
     ·rw[if_pos (by omega)];exact RET.any (LeRep.tup (.cons (LeRep.of (.inl (.inr rfl))) (.cons (.refl _) .nil)))
     ·rw[if_neg (by omega)];exact RET.any (LeRep.tup (.cons (LeRep.of (.inl (.inr ⟨rfl,e⟩))) (.cons (.refl _) .nil)))
end
section
variable (G:Glob)
def f223o (l:List (List UInt8)) (a b m:Int) (X:l.length<1000000) (N:0<=m) (Y:m<1000000000000):aj G Tryz.prog 223 [.lst 1 (l.map srow),.i a,.i b,.i m] [] (OwnW (aL a b l m)):=by
 refine aj.w c223 ?_;unfold s223 r223;(repeat' (first|simp only[EV,seval,D.yes,D.le0,D.lt',D.get,D.row,V,av (x:=m+(i:Int)) (by omega) (by have:=D.lt;omega)]|simp only[EV,seval,O]|simp only[EV,seval]|(with_reducible intro J E;(try(have F:=E;simp only[EVK]at F;(have T:=F))))|(refine ap (ι:=Option Nat) l (λi r c=>True) (λi c=>[(1,.i a),(2,.i b),(3,.i m),(9,.own c 118 4 ((aL a b (l.take i) m).map Wd.cs)),(12,.lst 1 (l.map srow)),(13,.i l.length),(14,.i i)]) (λi c=>tokS c 118 (i*4)) none trivial (Weak.of (by simp[cj,Env.get,AVle,aH,aL]) (SubN.refl _)) (by omega) (λi x r c I D V=>?_) (λc I O=>?_))))
 ·have hi:=D.lt;refine aZ (n:=i) (m':=(i+1)*4) aS (by rw[length_map,bG,length_take];omega) rfl rfl rfl (by assumption) (by omega) (λM=>?_);refine ak D M trivial ?_;rw[i8 a b l m D,map_append];exact dT _ _
 ·rw[take_length];exact RET.mk (SubN.refl _) ⟨c,rfl,by rw[bG]⟩
def f223 (l:List (List UInt8)) (a b m:Int) (E:l.length<1000000) (D:0<=m) (F:m<1000000000000):Pure G Tryz.prog 223 [.lst 1 (l.map srow),.i a,.i b,.i m] (.lst 4 ((aL a b l m).map Wd.cs)):=
 tJ (f223o G l a b m E D F) (by rintro r σ' ⟨g,rfl,rfl⟩;exact LeRep.of (.inl (.inr ⟨rfl,rfl⟩)))
def f351 (l:List Wd) (X:l.length<1000000):Pure G Tryz.prog 351 [.lst 4 (l.map Wd.cs)] (.lst 1 ((l.map Wd.text).map srow)):=by
 refine Pure.w c351 λR N=>?_;unfold s351 r351;(repeat' (simp only[EV,seval]));refine ap (ι:=Option Nat) l (λi r c=>True) (λi c=>[(3,.own c 9 1 ((l.take i).map λw=>srow w.text)),(6,.lst 4 (l.map Wd.cs)),(7,.i l.length),(8,.i i)]) (λi c=>tokS c 9 (i*1)) none trivial (Weak.of (by simp[cj,Env.get,AVle,aH]) (SubN.refl _)) (by omega) (λi x r c I D V=>?_) (λc I O=>?_)
 ·have hi:=D.lt;(repeat' (first|simp only[EV,seval,D.yes,D.le0,D.lt',D.row,V,D.get]|(with_reducible intro J E;(try(have F:=E;simp only[EVK]at F;(have T:=F))))));refine aZ (n:=i) (m':=(i+1)*1) (bp (by assumption)) (by rw[length_map,length_take];omega) rfl rfl rfl (by assumption) (by omega) (λM=>?_);refine ak D M trivial ?_;simp only[D.take,map_append,map_cons,map_nil,srow];exact dT _ _
 ·(repeat' (simp only[EV,seval,O]));exact N _ _ (Or.inl (Or.inr ⟨rfl,by rw[take_length,map_map];rfl⟩))
def f350 (w row:List (List UInt8)) (hw:w.length<1000000) (hr:row.length<1000000) (N:row≠[]):Pure G Tryz.prog 350 [.lst 1 (w.map srow),.lst 1 (row.map srow)] (.lst 1 ((occL row 0 0 w).map λn:Nat=>[AV.int .i64 (n:Int)])):=by
 have aa:1<=row.length:=by cases row<;>simp_all
 have X:decide ((row.length:Int)=0)=false:=decide_eq_false (by omega);refine Pure.w c350 λR hR=>?_;unfold s350 r350;(repeat' (simp only[EV,seval,X]));refine gS (ι:=Nat×List Nat×Option Nat) (λp=>p.1<=w.length/\p.2.1.length<=p.1/\occL row 0 0 w=p.2.1++occL row 0 p.1 (w.drop p.1)) (λp=>w.length+1-p.1) (λp=>[(0,.lst 1 (w.map srow)),(1,.lst 1 (row.map srow)),(5,.own p.2.2 3 1 (p.2.1.map λn:Nat=>[AV.int .i64 (n:Int)])),(6,.i p.1)]) (λp=>tokS p.2.2 3 (p.2.1.length*1)) (0,[],none) ⟨by omega,by simp,by simp⟩ (Weak.of (by simp[cj,Env.get,AVle,aH]) (SubN.refl _)) ?_;rintro⟨i,l,c⟩ ⟨Z,h2,D⟩;simp only at Z h2 D ⊢
 have w2:IntKind.i64.wrap ((i:Int)+(row.length:Int))=((i+row.length:Nat):Int):=by rw[av (by omega) (by omega)];omega
 by_cases hi:i+row.length<=w.length
 ·have J:decide (((i+row.length:Nat):Int)<=(w.length:Int))=true:=decide_eq_true (by omega);have O:IntKind.i64.wrap ((i:Int)+1)=((i+1:Nat):Int):=fF (by omega);have M:=f168 G ((w.drop i).take row.length) row (by rw[length_take];omega)
  have I:List.drop i (List.take (i+row.length) (w.map srow))=((w.drop i).take row.length).map srow:=by rw[drop_take,map_take,map_drop];congr 1;omega
  rcases Classical.em ((w.drop i).take row.length=row)with hm|hm
  ·rw[decide_eq_true hm]at M;rw[pi N hm,drop_drop]at D;(repeat' (first|(with_reducible first|refine AI (by omega) ?_|refine ab M ?_)|simp only[EV,seval,J,O,w2,I]|(with_reducible intro T E;(try(have F:=E;simp only[EVK]at F;(have ac:=F))))|(refine⟨[[AV.int .i64 (i:Int)]],rfl,(by simp),(by simp),?_⟩)|(refine cx (by((simp only[length_map]<;>exact bp (by assumption)))) rfl rfl (by simp<;>omega) (λY=>?_))));refine⟨(i+row.length,l++[i],Y),⟨by simp only;omega,by simp only[length_append,length_cons,length_nil];omega,by simp only[append_assoc,cons_append,nil_append];exact D⟩,by simp only;omega,?_⟩;simp only[map_append,map_cons,map_nil,length_append,length_map,length_cons,length_nil];exact dT _ _
  ·rw[decide_eq_false hm]at M;rw[nt hm,drop_drop]at D;(repeat' (first|(with_reducible first|refine AI (by omega) ?_|refine ab M ?_)|simp only[EV,seval,J,O,w2,I]));exact⟨(i+1,l,c),⟨by simp only;omega,by simp only;omega,D⟩,by simp only;omega,dT _ _⟩
 ·have J:decide (((i+row.length:Nat):Int)<=(w.length:Int))=false:=decide_eq_false (by omega);have V:occL row 0 i (w.drop i)=[]:=mh (by rw[length_drop];omega);rw[V,append_nil]at D;(repeat' (simp only[EV,seval,J,w2]));exact hR _ _ (Or.inl (Or.inr ⟨rfl,by rw[D]⟩))
end
def prow (n:Nat):List AV:=[.i n]
section
variable (G:Glob)
def f314 (w:List Wd) (row:List (List UInt8)) (nth:Int) (X:w.length<1000000) (hr:row.length<1000000) (V:row≠[]) (hn:0<=nth) (Z:nth<=1000000):Pure G Tryz.prog 314 [.lst 4 (w.map Wd.cs),.lst 1 (row.map srow),.i nth] (.lst 1 ((bP (occs w row) nth).map λn:Nat=>[AV.int .i64 (n:Int)])):=by
 have M:=f351 G w X;have E:=f350 G (w.map Wd.text) row (by rw[length_map];exact X) hr V;have O:occL row 0 0 (w.map Wd.text)=occs w row:=rfl;rw[O]at E;refine Pure.w c314 λR D=>?_;unfold s314 r314;obtain⟨ps,T⟩:∃ps,occs w row=ps:=⟨_,rfl⟩;rw[T]at D E;unfold bP at D
 rcases Classical.em (nth=0)with h0|h0
 ·have F:decide (nth=0)=true:=decide_eq_true h0;rw[if_pos h0]at D;(repeat' (first|(with_reducible first|refine ab M ?_|refine ab E ?_)|simp only[EV,seval,F]));exact D _ _ (Or.inl (Or.inl rfl))
 ·have F:decide (nth=0)=false:=decide_eq_false h0;have w1:IntKind.i64.wrap (nth-1)=nth-1:=av (by omega) (by omega);rw[if_neg h0]at D
  rcases Classical.em ((ps.length:Int)<nth)with h1|h1
  ·have J:decide ((ps.length:Int)<nth)=true:=decide_eq_true h1;have I:ps[(nth-1).toNat]? =none:=getElem?_eq_none (by omega);rw[I]at D;(repeat' (first|(with_reducible first|refine ab M ?_|refine ab E ?_)|simp only[EV,seval,F,J]));exact D _ _ (Or.inl (Or.inr rfl))
  ·have J:decide ((ps.length:Int)<nth)=false:=decide_eq_false h1
   have N:(nth-1).toNat<ps.length:=by omega
   have I:ps[(nth-1).toNat]? =some ps[(nth-1).toNat]:=getElem?_eq_getElem N;rw[I]at D
   have Y:List.drop (nth-1).toNat (List.take nth.toNat (ps.map λn:Nat=>[AV.int .i64 (n:Int)]))=[[AV.int .i64 ((ps[(nth-1).toNat]:Nat):Int)]]:=by
    rw[show nth.toNat=(nth-1).toNat+1 by omega,take_add_one,getElem?_map,I,drop_append_of_le_length (by simp;omega),drop_eq_nil_of_le (by simp;omega)];rfl
   (repeat' (first|(with_reducible first|refine AI (by omega) ?_|refine ab M ?_|refine ab E ?_)|simp only[EV,seval,F,J,w1,Y]));exact D _ _ (Or.inl (Or.inl rfl))
abbrev stp4 (a b n m:Int):List AV:=[.i a,.i b,.i n,.i m]
set_option maxHeartbeats 1000000 in
def f348 (D:Nat) (l:List Wd) (a b n m:Int) (I:l.length<1000000) (E:0<=m) (N:m<1000000000000):
  aj G Tryz.prog 348 [.p D,.lst 4 (l.map Wd.cs)] [(D,.cells 253 (stp4 a b n m))] λr σ'=>r= .lst 4 ((aL a b (l.map Wd.text) m).map Wd.cs)/\σ'=[(D,.cells 253 (stp4 a b n (m+l.length)))]:=by
 have M:=f351 G l I
 have J:=f223 G (l.map Wd.text) a b m (by rw[length_map];exact I) E N
 have F:(aL a b (l.map Wd.text) m).length=l.length:=by rw[bG,length_map]
 have O:IntKind.i64.wrap (m+(l.length:Int))=m+l.length:=av (by omega) (by omega)
 refine aj.w c348 ?_
 unfold s348 r348 stp4
 (repeat' (first|(with_reducible first|refine ab M ?_|refine ab J ?_)|simp only[EV,seval,F,O]|(with_reducible first|refine ag ?_ ?_|refine ai ?_)))
 all_goals exact RET.mk (SubN.refl _) ⟨rfl,rfl⟩
end
section
mutual
def U.named:U->Bool
 |⟨d,k,l,h,w,ks⟩=>(decide (k=0)|| !decide (d=zId))&&U.nameds ks
def U.nameds:List U->Bool
 |[]=>true
 |u::us=>U.named u&&U.nameds us
end
def uj (u:U):u.named=((decide (u.kind=0)|| !decide (u.id=zId))&&U.nameds u.kids):=by cases u;rw[U.named]
def sU:U.nameds []=true:=by rw[U.nameds]
def sF (u:U) (us:List U):U.nameds (u::us)=(u.named&&U.nameds us):=by rw[U.nameds]
def rG:∀u:U,u.named=true->∀y∈u.flat,y.kind=0\/y.id≠zId:=by
 refine U.ind λu ih h y E=>?_;rw[uj,Bool.and_eq_true]at h;rw[U.flat_eq]at E
 rcases mem_cons.1 E with rfl|E
 ·have:=h.1;simp only[Bool.or_eq_true,decide_eq_true_eq,Bool.not_eq_true',decide_eq_false_iff_not]at this;exact this
 ·obtain⟨k,D,E⟩:=cc E
  have:∀us:List U,U.nameds us=true->∀k∈us,k.named=true:=by
   intro us
   induction us with
   |nil=>intro _ k D;cases D
   |cons x us ihu=>
    intro h k D;rw[sF,Bool.and_eq_true]at h
    rcases mem_cons.1 D with rfl|D
    ·exact h.1
    ·exact ihu h.2 k D
  exact ih k D (this u.kids h.2 k D) y E
def kv (u:U):Bool:=decide (u.kind=0)&&(fM u&&u.named)
def oS {u:U} (h:kv u=true):Good u:=by
 unfold kv at h;rw[mD]at h;unfold cR at h;simp only[Bool.and_eq_true,decide_eq_true_eq]at h;obtain⟨N,⟨hn,Z,Y,hi⟩,T⟩:=h;have D:=all_eq_true.1 hn;have M:=rG u T
 have F:u.ids.Nodup/\u.id=zId:=by
  unfold gZ at hi
  rcases Bool.or_eq_true_iff.1 hi with hz|hz
  ·have E:=all_eq_true.1 hz
   have hk:u.kids=[]:=by
    cases O:u.kids with
    |nil=>rfl
    |cons k ks=>
     exfalso
     have J:k∈u.kids:=by rw[O];simp
     have I:k∈u.flat:=sa J k.flat_self;have V:=nn (eS (D u u.flat_self) k J)
     have X:k.id=zId:=by simpa using E k.id (mem_map.2 ⟨k,I,rfl⟩)
     rcases M k I with h3|h3
     ·exact V h3
     ·exact h3 X
   have e:u.ids=[u.id]:=by rw[rb,hk,sm]
   refine⟨by rw[e];simp,?_⟩;simpa using E u.id (mG u)
  ·rw[Bool.and_eq_true,decide_eq_true_eq,decide_eq_true_eq]at hz;refine⟨hz.2,?_⟩;have:=hz.1;rw[decide_eq_true N]at this;simpa using this
 refine⟨F.1,D,by unfold U.dep at Z;omega,by unfold U.cnt at Y;omega,⟨λ_=>F.2,λ_=>N⟩,λh=>absurd N h⟩
section
variable (G:Glob)
def f107:∀(u:U),u.Tame->Pure G Tryz.prog 107 [.agg u.cs] (.bool u.named):=by
 refine U.ind λu ih I=>?_;have J:=I.kids;refine Pure.w c107 λR F=>?_;unfold s107 r107;rw[uj]at F;(repeat' (first|(with_reducible (first|refine ae (λh=>?_) λh=>?_|refine af (λh=>?_) λh=>?_)<;>(try simp only[DZ]at h))|(with_reducible refine ab (ih x D.mem (I.kid D.mem)) ?_)|simp only[EV,seval,dm,D.yes,D.le0,D.lt',D.get,D.row,N]|simp only[EV,seval,dm,M]|simp only[EV,seval,dm]|(refine ak D () ?_ (dT _ _))|(refine ap (u.kids) (λi r (c:Unit)=>U.nameds u.kids=U.nameds r) (λi c=>[(1,.ref u.cs),(3,.i i)]) (λ_ _=>[]) () (by rfl) (dT _ _) (by omega) (λi x r c E D N=>?_) (λc E M=>?_))));(all_goals(first|(refine RET.eq F ?_;first|(simp only[sU,sF,E,h,EVC,decide_true,decide_false];done)|(simp_all[sU,sF];done))|(rw[E];simp only[sU,sF,h,EVC,decide_true,decide_false];done)))
def f51 (u:U) (D:u.Short):Pure G Tryz.prog 51 [.agg u.cs] (.bool (fM u&&u.named)):=by
 have E:=f106 G u D;have F:=f107 G u D.1;refine Pure.w c51 λR I=>?_;unfold s51 r51;generalize fM u=q1 at*;generalize u.named=q2 at*;(repeat' (first|(with_reducible (refine af (λh=>?_) λh=>?_)<;>(try simp only[DZ]at h))|(with_reducible first|refine ab E ?_|refine ab F ?_)|simp only[EV,seval]));(all_goals(((refine RET.eq I ?_;((simp_all[];done))))))
def f18 (u:U) (F:u.Short):Pure G Tryz.prog 18 [.agg u.cs] (.bool (kv u)):=by
 have E:=f51 G u F;refine Pure.w c18 λR D=>?_;unfold s18 r18;unfold kv at D;generalize (fM u&&u.named)=q1 at*;(repeat' (first|(with_reducible (refine af (λh=>?_) λh=>?_)<;>(try simp only[DZ]at h))|(with_reducible refine ab E ?_)|simp only[EV,seval]));(all_goals(first|(refine RET.eq D ?_;(refine congrArg AV.bool (Bool.eq_iff_iff.2 ?_);simp only[EVB]at*;omega))|(refine RET.eq D ?_;((simp_all[];done)))))
end
end
def nR {l:List Wd} (h:fP l=true):l.length<1000000/\∀w∈l,w.text.length<1000000:=by
 unfold fP at h;simp only[Bool.and_eq_true,all_eq_true,decide_eq_true_eq]at h;exact⟨by omega,λw D=>by have:=h.1 w D;omega⟩
def kA:∀{us:List U},U.shortss us=true->∀k∈us,k.shorts=true
 |[],_,k,hk=>by cases hk
 |u::us,h,k,hk=>by
  rw[U.shortss,Bool.and_eq_true]at h
  rcases mem_cons.1 hk with rfl|hk
  ·exact h.1
  ·exact kA h.2 k hk
def oZ:∀u:U,u.shorts=true->∀x∈u.flat,x.label.length<1000000/\x.head.length<1000000/\x.words.length<1000000/\(∀w∈x.head,w.text.length<1000000)/\(∀w∈x.words,w.text.length<1000000):=by
 refine U.ind λu ih h x D=>?_;rw[tY]at h;simp only[Bool.and_eq_true,decide_eq_true_eq]at h;obtain⟨M,F,I,J⟩:=h;rw[U.flat_eq]at D
 rcases mem_cons.1 D with rfl|D
 ·have a:=nR F;have b:=nR I;exact⟨by omega,a.1,b.1,a.2,b.2⟩
 ·obtain⟨k,E,D⟩:=jB D;exact ih k E (kA J k E) x D
def md {u:U} (O:u.fit) {m:Int} (T:0<=m) (V:m<=100000) (h:u.few m=true):u.Short:=by
 unfold U.few at h;simp only[Bool.and_eq_true,decide_eq_true_eq]at h;obtain⟨M,N⟩:=h;have Z:=(uq u 0 m T).2.2 M
 exact⟨⟨O,by omega⟩,λx X=>by
  obtain⟨Y,E,F,I,J⟩:=oZ u N x X
  exact⟨by omega,E,F,λw D=>by have:=I w D;omega,λw D=>by have:=J w D;omega⟩⟩
def oU {l:List Stp} (h:cu l=true):∀s∈l,s.label.length<=100:=by
 unfold cu at h;simp only[all_eq_true,decide_eq_true_eq]at h;intro s D;have:=h s D;omega
def pC:∀{l:List Itm},Itm.fews l=true->∀y∈l,y.few=true
 |[],_,y,hy=>by cases hy
 |x::l,h,y,hy=>by
  rw[te,Bool.and_eq_true,Bool.and_eq_true]at h
  rcases mem_cons.1 hy with rfl|hy
  ·exact h.1.2
  ·exact pC h.2 y hy
def qu:∀x:Itm,x.fit->x.few=true->x.Shorts:=by
 refine Itm.ind λx ih I h=>?_;rw[ug]at h;unfold Itm.few0 at h;simp only[Bool.and_eq_true,decide_eq_true_eq]at h;obtain⟨⟨V,X,Y,Z,a5,a6,a7,a8,a9,D⟩,b1,b2,J,M,N⟩:=h;obtain⟨h1,h2,O,h4,h5,h6,T⟩:=(su x).1 I;refine(o5 x).2 ⟨⟨I,md O (by omega) (by omega) D,by omega,by omega,λs E=>by have:=oU J s E;omega,λs E=>by have:=oU M s E;omega,by omega,by omega,by omega,by omega,by omega,by omega⟩,λy F=>ih y F (T y F) (pC N y F)⟩
def zU0:U:=⟨⟨0,0,0⟩,0,[],[],[],[]⟩
def ij:zU0.Short:=by
 have e:zU0.flat=[zU0]:=by rw[U.flat_eq];show _::U.flats []=_;rw[bH]
 have E:zU0.fit:=(sj _).2 ⟨by decide,⟨by decide,by simp[zU0]⟩,⟨by decide,by simp[zU0]⟩,by decide,by simp[zU0]⟩;refine⟨⟨E,by rw[e];simp⟩,λx D=>?_⟩;rw[e,mem_singleton]at D;subst D;refine⟨by decide,by decide,by decide,by simp[zU0],by simp[zU0]⟩
def exA:Itm:={iz with kind:=5,at_:=[⟨2,[53]⟩],label:=[53]}
def exB:Itm:={iz with kind:=2,at_:=[⟨2,[53]⟩],old:=[[97]],new:=[[97]]}
def exA_short:exA.Shorts:=by
 refine(o5 _).2 ⟨⟨(su _).2 ⟨by decide,by decide,ij.1.1,by decide,by decide,by decide,by simp[exA,iz]⟩,ij,by decide,by decide,by simp[exA,iz],by simp[exA,iz],by decide,by decide,by decide,by decide,by decide,by decide⟩,by simp[exA,iz]⟩
def exB_short:exB.Shorts:=by
 refine(o5 _).2 ⟨⟨(su _).2 ⟨by decide,by decide,ij.1.1,by decide,by decide,by decide,by simp[exB,iz]⟩,ij,by decide,by decide,by simp[exB,iz],by simp[exB,iz],by decide,by decide,by decide,by decide,by decide,by decide⟩,by simp[exB,iz]⟩
def exA_finds:exA.finds=[fw 10 aV]:=by decide+kernel
def exB_finds:exB.finds=[fw 11 aT]:=by decide+kernel
def Pure.le {G:Glob} {P:Program} {k:FuncId} {args D:List AV} {r:AV} (h:Pure G P k D r) (I:aE args D):Pure G P k args r:=⟨h.1,λρ w vs F E=>h.2 ρ w vs F (I.rep E)⟩
def jN (k:Int) (a o w:AV) (l:List UInt8):List AV:=[.i k,a,.nil,.i 0,.i 0,.i 0,.i 0,.i 0,.i 0,.str [],.nil,.nil,.nil,o,w,.str l,.str [],.i 0,.i 0,.str [],.i 0,.i 0,.i 0,.str [],.nil]
section
variable (G:Glob) (hG:GOk G)
include hG
set_option maxRecDepth 100000 in
def f11:Pure G Tryz.prog 11 [] (.bool true):=by
 have M:=f39 G hG exA exA_short;have N:=f39 G hG exB exB_short;have O:=qS G;rw[exA_finds]at M;rw[exB_finds]at N;simp only[map_cons,map_nil,db]at M N;unfold lD at O;have E:∀b,Pure G Tryz.prog 39 [.agg (jN 5 (.own (some b) 85 2 [[.i 2,.str [53]]]) .nil .nil [53])] _:=λb=>Pure.le M ⟨.inr (by rw[eH];simp[aW,aH,exA,iz,Stp.cs,jN]),trivial⟩;have F:∀b c d,Pure G Tryz.prog 39 [.agg (jN 2 (.own (some b) 85 2 [[.i 2,.str [53]]]) (.own (some c) 9 1 [[.str [97]]]) (.own (some d) 9 1 [[.str [97]]]) [])] _:=λb c d=>Pure.le N ⟨.inr (by rw[eH];simp[aW,aH,exB,iz,Stp.cs,srow,jN]),trivial⟩;unfold jN at E F;clear M N;refine Pure.w c11 λR V=>?_;unfold s11 r11;(repeat' (first|(with_reducible first|refine ab (E _) ?_|refine ab (F _ _ _) ?_|refine ab O ?_)|simp only[EV,seval,aV,aT]|(with_reducible intro T I;(try(have D:=I;simp only[EVK]at D;first|(have J:=AI D J)|(have J:=D))))|(refine⟨[[.i 2,.str [53]]],rfl,(by simp),rfl,?_⟩)|(refine⟨[[.str [97]]],rfl,(by simp),rfl,?_⟩)|fail))
 all_goals(exact RET.eq V rfl)
end
end Go.Av
