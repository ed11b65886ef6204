/-
  ENACT LAWS, 1: small books and small items, walked.
-/
import Derived.Test.YtcecmifknojgeaaGreatDoorXC4
import Derived.Test.YtcecmifknojgeaaGreatDoorXC5
import Derived.Test.YtcecmifknojgeaaGreatDoorXC6
import Derived.Test.YtcecmifknojgeaaGreatDoorXE14toXC7
import Derived.Test.YtcecmifknojgeaaGreatDoorXL34toXM2
import Derived.Test.YtcecmifknojgeaaGreatDoorXM7toXM9
import Derived.Test.YtcecmifknojgeaaGreatDoorXL29toXL51
import Derived.Test.YtcecmifknojgeaaGreatDoorXAv16toXAv23
import Derived.Test.YtcecmifknojgeaaGreatDoorXM3toXM6
namespace Go.Av
open Go Go.RowKit Go.Proofs List
set_option linter.unusedSimpArgs false
set_option linter.unusedVariables false
theorem few7_le:∀(u:U) (left d:Int),0<=left->u.few7 left d<=left:=by
 refine U.ind λu ih left d h=>?_
 rw[U.few7_eq]
 split
 ·omega
 ·have key:∀(us:List U),(∀k∈us,k∈u.kids)->∀l:Int,U.fews7 us l (d+1)<=l:=by
   intro us
   induction us with
   |nil=>intro _ l;rw[U.fews7];omega
   |cons k us ihu=>
    intro hk l
    rw[U.fews7]
    split
    ·rename_i h0
     have h1:=ihu (λq hq=>hk q (by simp[hq])) (U.few7 k l (d+1))
     have h2:=ih k (hk k (by simp)) l (d+1) h0
     omega
    ·omega
  have:=key u.kids (λ_ h=>h) (((left-1-((u.words.length / 50:Nat):Int))-((u.head.length / 50:Nat):Int))-((u.label.length / 50:Nat):Int))
  omega
theorem wrap50 {n:Nat} (h:n<1000000000000000000):IntKind.i64.wrap ((n:Int).tdiv 50)=((n / 50:Nat):Int):=by
 have e:(n:Int).tdiv 50=((n / 50:Nat):Int):=(Int.ofNat_tdiv n 50).symm
 rw[e]
 exact au (by omega) (by omega)
theorem lz {α:Type} {l r:List α} {i:Nat} {x:α} (hx:Rest l i x r) (h:(l.take i).Nodup) (hm:x∉l.take i):(l.take (i+1)).Nodup:=by
 rw[hx.take]
 refine nodup_append.2 ⟨h,by simp,λa ha b hb e=>?_⟩
 simp only[mem_singleton]at hb
 subst hb e
 exact hm ha
theorem nodup_not {α:Type} {l r:List α} {i:Nat} {x:α} (hx:Rest l i x r) (hm:x∈l.take i):¬l.Nodup:=by
 intro h
 have h2:(l.take (i+1)).Nodup:=h.sublist (take_sublist _ _)
 rw[hx.take]at h2
 exact(nodup_append.1 h2).2.2 x hm x (by simp) rfl
section
variable (G:Glob)
theorem f20 (a b:List Wd) (ha:a.length<9000000000000000000):Pure G Tryz.prog 20 [.lst 4 (a.map Wd.cs),.lst 4 (b.map Wd.cs)] (.bool (decide (a=b))):=by
 refine Pure.w c20 λR hR=>?_
 unfold s20 r20
 by_cases hl:a.length=b.length
 ·have e0:decide ((a.length:Int)≠(b.length:Int))=false:=by simp[hl]
  (repeat' (first|(with_reducible (refine ae (λh=>?_) (λh=>?_))<;>(try simp only[Da,Db,Dc,Dw,De,Df,Dg,Dh]at h))|(with_reducible refine AI (by omega) ?_)|simp only[EVz,seval,↓reduceIte,EV6,EV7,e0,hx.yes,hx.le0,hx.lt',hx.get,hx.row,hw,hy.row,hy.lt']|simp only[EVz,seval,↓reduceIte,EV6,EV7,e0,hn]|simp only[EVz,seval,↓reduceIte,EV6,EV7,e0]|(refine af hx () ?_ (Weak.rfl' _ _))|(refine Zq (a) (λi r (c:Unit)=>a.length=b.length/\decide (a=b)=decide (r=b.drop i)) (λi c=>[(0,.lst 4 (a.map Wd.cs)),(1,.lst 4 (b.map Wd.cs)),(5,.int .i64 i)]) (λ_ _=>[]) () (by((simp[*];done))) (Weak.rfl' _ _) (by omega) (λi x r c hok hx hw=>?_) (λc hok hn=>?_)<;>(try(obtain⟨y,r2,hy,hyn,hok⟩:=cr hok hx;(cases x;cases y))))|fail))
  (all_goals(first|(refine RET.eq hR ?_;first|(simp_all[hl];done)|grind)|(simp_all[hl];done)))
 ·have e0:decide ((a.length:Int)≠(b.length:Int))=true:=by simp;omega
  have e1:decide (a=b)=false:=by simp;rintro rfl;exact hl rfl
  rw[e1]at hR
  (repeat' (simp only[EVz,seval,↓reduceIte,EV6,EV7,e0]))
  (all_goals((exact RET.eq hR rfl)))
set_option maxHeartbeats 1000000 in
theorem f52:∀(u:U) (left d:Int),u.fit->0<=left->left<=1000->0<=d->d<=13->Pure G Tryz.prog 52 [.agg u.cs,.int .i64 left,.int .i64 d] (.int .i64 (u.few7 left d)):=by
 refine U.ind λu ih left d hfit hl0 hl1 hd0 hd1=>?_
 have hf:=(U.fit_eq u).1 hfit
 have hkl:=hf.2.2.2.1
 have w1:=wrap50 hf.2.2.1.1
 have w2:=wrap50 hf.2.1.1
 have w3:=wrap50 hf.1
 have b1:=hf.2.2.1.1
 have b2:=hf.2.1.1
 have b3:=hf.1
 rw[U.few7_eq]
 obtain⟨c1,hc1⟩:∃c:Nat,u.words.length / 50=c:=⟨_,rfl⟩
 obtain⟨c2,hc2⟩:∃c:Nat,u.head.length / 50=c:=⟨_,rfl⟩
 obtain⟨c3,hc3⟩:∃c:Nat,u.label.length / 50=c:=⟨_,rfl⟩
 have v1:c1<1000000000000000000:=by omega
 have v2:c2<1000000000000000000:=by omega
 have v3:c3<1000000000000000000:=by omega
 rw[hc1]at w1 ⊢
 rw[hc2]at w2 ⊢
 rw[hc3]at w3 ⊢
 have x1:IntKind.i64.wrap (left-1)=left-1:=au (by omega) (by omega)
 have x2:IntKind.i64.wrap (left-1-(c1:Int))=left-1-(c1:Int):=au (by omega) (by omega)
 have x3:IntKind.i64.wrap (left-1-(c1:Int)-(c2:Int))=left-1-(c1:Int)-(c2:Int):=au (by omega) (by omega)
 have x5:IntKind.i64.wrap (d+1)=d+1:=au (by omega) (by omega)
 obtain⟨L,hL⟩:∃L,left-1-(c1:Int)-(c2:Int)-(c3:Int)=L:=⟨_,rfl⟩
 have hL1:L<=1000:=by omega
 have x4:IntKind.i64.wrap (left-1-(c1:Int)-(c2:Int)-(c3:Int))=L:=by rw[au (by omega) (by omega)];exact hL
 rw[hL]
 refine Pure.w c52 λR hR=>?_
 unfold s52 r52
 clear hc1 hc2 hc3 b1 b2 b3
 (repeat' (first|(with_reducible (refine ae (λh=>?_) (λh=>?_))<;>(try simp only[Da,Db,Dc,Dw,De,Df,Dg,Dh]at h))|(with_reducible refine ab (ih x hx.mem c (d+1) (hf.2.2.2.2 x hx.mem) (by omega) (by omega) (by omega) (by omega)) ?_)|simp only[EVz,seval,↓reduceIte,EV6,EV7,w1,w2,w3,x1,x2,x3,x4,x5,hx.yes,hx.le0,hx.lt',hx.get,hx.row,hw,x5]|simp only[EVz,seval,↓reduceIte,EV6,EV7,w1,w2,w3,x1,x2,x3,x4,x5,hn]|simp only[EVz,seval,↓reduceIte,EV6,EV7,w1,w2,w3,x1,x2,x3,x4,x5]|(refine Zq (ι:=Int) (u.kids) (λi r c=>U.fews7 u.kids L (d+1)=U.fews7 r c (d+1)/\c<=1000) (λi c=>[(1,.int .i64 c),(2,.int .i64 d),(3,.ref u.cs),(7,.int .i64 i)]) (λ_ _=>[]) (L) (by((simp[*];done))) (Weak.rfl' _ _) (by omega) (λi x r c hok hx hw=>?_) (λc hok hn=>?_)<;>(try(skip)))|(refine af hx _ ?_ (Weak.rfl' _ _))|fail))
 ·exact RET.eq hR (by rw[if_pos (by assumption)])
 ·refine⟨by rw[hok.1,U.fews7,if_pos (by assumption)],?_⟩
  have:=few7_le x c (d+1) (by assumption)
  omega
 ·exact RET.eq hR (by rw[if_neg (by omega),hok.1,U.fews7,if_neg (by omega)])
 ·exact RET.eq hR (by rw[if_neg (by omega),hok.1,U.fews7])
theorem f33 (u:U) (n:Int) (hfit:u.fit) (h0:0<=n) (h1:n<=1000):Pure G Tryz.prog 33 [.agg u.cs,.int .i64 n] (.bool (decide (0<=u.few7 n 0))):=by
 refine Pure.w c33 λR hR=>?_
 unfold s33 r33
 (repeat' (first|(with_reducible refine ab (f52 G u n 0 hfit h0 h1 (by omega) (by omega)) ?_)|simp only[EVz,seval,↓reduceIte,EV6,EV7]|fail))
 (all_goals((exact RET.eq hR rfl)))
set_option maxHeartbeats 2000000 in
theorem f35:∀it:Itm,it.big->Pure G Tryz.prog 35 [.agg it.cs] (.bool it.little):=by
 refine Itm.ind λit ih hb=>?_
 have hfit:=big_fit it hb
 obtain⟨⟨a1,_⟩,⟨b1,_⟩,c,d,e,_,f,g⟩:=(Itm.big_eq it).1 hb
 have hF:=f33 G it.unit 20 c (by omega) (by omega)
 rw[Itm.little_eq]
 obtain⟨z,hz⟩:∃z,it.little0=z:=⟨_,rfl⟩
 cases z with
 |false=>
  rw[hz]
  refine Pure.w c35 λR hR=>?_
  unfold s35 r35
  rw[Bool.false_and]at hR
  (repeat' (first|(with_reducible (first|refine ae (λh=>?_) (λh=>?_)|refine ag (λh=>?_) (λh=>?_))<;>(try simp only[Da,Db,Dc,Dw,De,Df,Dg,Dh]at h))|(with_reducible refine ab hF ?_)|simp only[EVz,seval,↓reduceIte,EV6,EV7,U.cs_fold]|fail))
  all_goals first
   |exact RQ hR
   |(exfalso;have:it.little0=true:=(by unfold Itm.little0;simp only[Bool.and_eq_true,decide_eq_true_eq];omega);rw[this]at hz;cases hz)
   |trace_state
 |true=>
  rw[hz]
  unfold Itm.little0 at hz
  simp only[Bool.and_eq_true,decide_eq_true_eq]at hz
  obtain⟨l1,l2,l3,l4,l5,l6,l7,l8,l9⟩:=hz
  refine Pure.w c35 λR hR=>?_
  unfold s35 r35
  rw[Bool.true_and]at hR
  (repeat' (first|(with_reducible (first|refine ae (λh=>?_) (λh=>?_)|refine ag (λh=>?_) (λh=>?_))<;>(try simp only[Da,Db,Dc,Dw,De,Df,Dg,Dh]at h))|(with_reducible first|refine ab hF ?_|refine ab (ih x hx.mem (g x hx.mem)) ?_)|simp only[EVz,seval,↓reduceIte,EV6,EV7,U.cs_fold,hx.yes,hx.le0,hx.lt',hx.get,hx.row,hw]|simp only[EVz,seval,↓reduceIte,EV6,EV7,U.cs_fold,hn]|simp only[EVz,seval,↓reduceIte,EV6,EV7,U.cs_fold]|(refine af hx () ?_ (Weak.rfl' _ _))|(refine Zq (it.by_) (λi r (c:Unit)=>Itm.littles it.by_=Itm.littles r) (λi c=>[(1,.ref it.cs),(3,.int .i64 i)]) (λ_ _=>[]) () (by rfl) (Weak.rfl' _ _) (by omega) (λi x r c hok hx hw=>?_) (λc hok hn=>?_))|(exfalso;omega)|fail))
  ·exact RET.eq hR (congrArg AV.bool (by rw[hok,Itm.littles_cons,h];rfl))
  ·rw[hok,Itm.littles_cons,h,Bool.true_and]
  ·exact RET.eq hR (congrArg AV.bool (by rw[hok,Itm.littles_nil]))
theorem f12 (l:List Dd) (hl:l.length<1000000000000000000) (hb:∀d∈l,d.it.big):Pure G Tryz.prog 12 [.lst 28 (l.map Dd.cs)] (.bool (fewB l)):=by
 refine Pure.w c12 λR hR=>?_
 unfold s12 r12
 (repeat' (first|(with_reducible (refine ae (λh=>?_) (λh=>?_))<;>(try simp only[Da,Db,Dc,Dw,De,Df,Dg,Dh]at h))|(with_reducible refine ab (f35 G x.it (hb x hx.mem)) ?_)|simp only[EVz,seval,↓reduceIte,EV6,EV7,Dd.cs,hx.yes,hx.le0,hx.lt',hx.get,hx.row,hw]|simp only[EVz,seval,↓reduceIte,EV6,EV7,Dd.cs,hn]|simp only[EVz,seval,↓reduceIte,EV6,EV7,Dd.cs]|(refine af hx () ?_ (Weak.rfl' _ _))|(refine Zq (l) (λi r (c:Unit)=>(l.all λd=>d.it.little)=r.all λd=>d.it.little) (λi c=>[(0,.lst 28 (l.map Dd.cs)),(3,.int .i64 i)]) (λ_ _=>[]) () (by rfl) (Weak.rfl' _ _) (by omega) (λi x r c hok hx hw=>?_) (λc hok hn=>?_))|fail))
 ·exact RET.eq hR (congrArg AV.bool (by unfold fewB;rw[hok,all_cons,h];rfl))
 ·rw[hok,all_cons,h,Bool.true_and]
 ·exact RET.eq hR (congrArg AV.bool (by unfold fewB;rw[hok];rfl))
variable (hG:GOk G)
include hG
set_option maxHeartbeats 2000000 in
theorem f11 (u:U) (n:Int) (hfit:u.fit) (h0:0<=n) (h1:n<=1000):Pure G Tryz.prog 11 [.agg u.cs,.int .i64 n] (.bool (dV u n)):=by
 have hF:=f33 G u n hfit h0 h1
 by_cases hf:0<=u.few7 n 0
 case neg=>
  have e0:dV u n=false:=by unfold dV;rw[decide_eq_false hf];rfl
  rw[decide_eq_false hf]at hF
  rw[e0]
  refine Pure.w c11 λR hR=>?_
  unfold s11 r11
  (repeat' (first|(with_reducible refine ab hF ?_)|simp only[EVz,seval,↓reduceIte,EV6,EV7]|fail))
  all_goals exact RQ hR
 rw[decide_eq_true hf]at hF
 have hs:=lM hfit h1 hf
 have hV:=f34 G hG u hs
 have hI:=f30 G u hs.1
 have hl:u.ids.length<1000000:=by rw[U.ids_len];exact hs.1.2
 cases hv:cG u with
 |false=>
  have e0:dV u n=false:=by unfold dV;rw[hv];simp
  rw[hv]at hV
  rw[e0]
  refine Pure.w c11 λR hR=>?_
  unfold s11 r11
  (repeat' (first|(with_reducible first|refine ab hF ?_|refine ab hV ?_)|simp only[EVz,seval,↓reduceIte,EV6,EV7]|fail))
  all_goals exact RQ hR
 |true=>
  rw[hv]at hV
  have e0:dV u n=idsB u:=by unfold dV;rw[hv,decide_eq_true hf];simp
  rw[e0]
  unfold idsB
  refine Pure.w c11 λR hR=>?_
  unfold s11 r11
  obtain⟨l,hll⟩:∃l,u.ids=l:=⟨_,rfl⟩
  rw[hll]at hR hI hl
  (repeat' (first|(with_reducible first|refine ab hF ?_|refine ab hV ?_)|simp only[EVz,seval,↓reduceIte,EV6,EV7]|fail))
  refine ep ?_
  intro b0 hb0
  (repeat' (first|(with_reducible (first|refine ae (λh=>?_) (λh=>?_)|refine ag (λh=>?_) (λh=>?_))<;>(try simp only[Da,Db,Dc,Dw,De,Df,Dg,Dh]at h))|(with_reducible refine ab hI ?_)|simp only[EVz,seval,↓reduceIte,EV6,EV7,cq,dz,cL,hx.yes,hx.le0,hx.lt',hx.get,hx.row,hw,hne]|simp only[EVz,seval,↓reduceIte,EV6,EV7,cq,dz,cL,hx.yes,hx.le0,hx.lt',hx.get,hx.row,hw]|simp only[EVz,seval,↓reduceIte,EV6,EV7,cq,dz,cL,hn]|simp only[EVz,seval,↓reduceIte,EV6,EV7,cq,dz,cL]|(with_reducible intro blk hblk;(try(have hnx:=hblk;simp only[EVK]at hnx;(have hne:=hnx))))|(refine Zq l (λi r (c:Unit)=>(l.take i).Nodup/\(zId∈l.take i->u.kind=0)) (λi c=>[(2,.ref u.cs),(5,.sc (.map (some b0))),(19,.lst 3 (l.map Idd.cs)),(20,.int .i64 l.length),(21,.int .i64 i)]) (λi c=>[(b0,.map (cJ ma (mset (l.take i))))]) () (by simp) (Weak.rfl' _ _) (by omega) (λi x r c hok hx hw=>?_) (λc hok hn=>?_))|(refine aI j3 (l:=mset (l.take i)) (k:=x) (z:=.bool false) (zv:=.bool false) rfl (mK x) (eT:=4) (by kernel_rfl) (by simp[Store.get, *]) (by kernel_rfl) (λ_ _=>by simp only[Rep]) ?_)|(refine ed j3 (l:=mset (l.take i)) (k:=x) (yv:=.bool true) rfl (mK x) rfl (eT:=4) (by kernel_rfl) (by simp[Store.get, *]) ?_)|fail))
  ·have hz:zId∈l:=by
    have e:x=zId:=by assumption
    exact e ▸ hx.mem
   exact RET.eq hR (congrArg AV.bool (by rw[decide_eq_true hz,decide_eq_false (p:=u.kind=0) h];simp))
  ·have hm:x∉l.take i:=by assumption
   rw[gF,if_neg hm,←hx.take]
   exact af hx () ⟨lz hx hok.1 hm,λ_=>by simpa using h⟩ (Weak.sub ⟨λp hp=>mem_cons_of_mem _ hp,λ_=>by simp[Store.keys]⟩)
  ·have hm:x∉l.take i:=by assumption
   rw[gF,if_neg hm,←hx.take]
   refine af hx () ⟨lz hx hok.1 hm,λhz=>?_⟩ (Weak.sub ⟨λp hp=>mem_cons_of_mem _ hp,λ_=>by simp[Store.keys]⟩)
   rw[hx.take,mem_append,mem_singleton]at hz
   rcases hz with hz|hz
   ·exact hok.2 hz
   ·exact absurd hz.symm h
  ·have hm:x∈l.take i:=by assumption
   exact RET.eq hR (congrArg AV.bool (by rw[decide_eq_false (nodup_not hx hm)];rfl))
  ·rw[take_length]at hok
   refine RET.eq hR (congrArg AV.bool ?_)
   rw[decide_eq_true hok.1,Bool.true_and]
   by_cases hz:zId∈l
   ·rw[decide_eq_true (hok.2 hz)];simp
   ·rw[decide_eq_false hz];simp
end
end Go.Av
namespace Go.Av
open Go Go.RowKit List
set_option linter.unusedSimpArgs false
set_option linter.unusedVariables false
theorem lx {α:Type} (l:List α):∀(c k:Nat),k<c*l.length->(List.replicate c l).flatten[k]? =l[k % l.length]?
 |0,k,h=>by simp at h
 |c+1,k,h=>by
  rw[replicate_succ,flatten_cons]
  by_cases hk:k<l.length
  ·rw[getElem?_append_left hk,Nat.mod_eq_of_lt hk]
  ·rw[getElem?_append_right (by omega),lx l c (k-l.length) (by rw[Nat.add_mul]at h;omega),←Nat.mod_eq_sub_mod (by omega)]
theorem cn {α:Type} (l:List α):∀c:Nat,(List.replicate c l).flatten.length=c*l.length
 |0=>by simp
 |c+1=>by rw[replicate_succ,flatten_cons,length_append,cn l c,Nat.add_mul];omega
theorem gw {z:Array Value} (hz:0<z.size) (c:Nat):(madeCells z (c*z.size)).toList=(List.replicate c z.toList).flatten:=by
 apply ext_getElem?
 intro k
 by_cases hk:k<c*z.size
 ·rw[lx z.toList c k (by simpa using hk)]
  have hm:=Nat.mod_lt k hz
  unfold madeCells
  simp[hk,hm,getElem!_pos z (k % z.size) hm]
 ·rw[getElem?_eq_none (by simp[size_madeCells];omega),getElem?_eq_none (by rw[cn];simp;omega)]
theorem gW {τ:Store} {w:World} {zr:List AV} {us:List Value} (h:RepL τ w zr us):∀c:Nat,RepL τ w (List.replicate c zr).flatten (List.replicate c us).flatten
 |0=>by simp[RepL]
 |c+1=>by rw[replicate_succ,replicate_succ,flatten_cons,flatten_cons];exact RepL.append h (gW h c)
section
variable {G:Glob} {P:Program}
theorem lP (w:World) (dT sT ty elem:TypeId) (g o dLen dCap sz:Nat) (a:Addr) (sLen sCap:Nat) (cur:Array Value) (t:TypeId) (cs:List Value)
  (hu:P.underlying dT=some (.slice elem)) (hs:(P.info? elem).map (·.size)=some sz)
  (hg:w.heap[g]? =some (.cells cur t (0,0))) (hn:cs.length=Nat.min sLen dLen*sz)
  (hsrc:∀j v,cs[j]? =some v->w.cell? (a.add j)=some v) (hfit:o+cs.length<=cur.size) (h1:∀v∈cs,v.oneCell'=true):
  (Builtin.copy_ #[dT,sT] ty #[.slice (some ⟨g,o,none⟩) dLen dCap,.slice (some a) sLen sCap]).run P w=
   .ok (goInt (Nat.min sLen dLen)) (w.setRow g (cur.toList.take o++cs++cur.toList.drop (o+cs.length)).toArray):=by
 have hl:=run_loadCells_list (P:=P) w a cs hsrc
 have hst:=run_storeCells_at P g o t cs 0 cur w hg (by simpa using hfit) h1
 cases hq:P.info? elem with
 |none=>simp[hq]at hs
 |some i=>
  have hi:i.size=sz:=by simpa[hq]using hs
  simp[Builtin.copy_,run_underlying hu,Builtin.lenOf,Builtin.firstCells,sizeOf,typeInfo,hq,hi,←hn,hl,hst]
theorem kY (w:World) (dT sT ty elem:TypeId) (d a:Option Addr) (dLen dCap sLen sCap sz:Nat) (hu:P.underlying dT=some (.slice elem)) (hs:(P.info? elem).map (·.size)=some sz) (hn:Nat.min sLen dLen=0):
  (Builtin.copy_ #[dT,sT] ty #[.slice d dLen dCap,.slice a sLen sCap]).run P w= .ok (goInt 0) w:=by
 cases hq:P.info? elem with
 |none=>simp[hq]at hs
 |some i=>
  have hl:∀(x:Addr),(loadCells x 0).run P w= .ok #[] w:=λx=>by simpa using run_loadCells_list (P:=P) w x [] (by simp)
  cases d<;>cases a<;>simp[Builtin.copy_,run_underlying hu,Builtin.lenOf,Builtin.firstCells,sizeOf,typeInfo,hq,hn,storeCells,hl]
theorem jq {ty elem:TypeId} {i c sz bytes:Nat} {z:Value} {zr:List AV} {kc:IntKind} {env:Env} {σ:Store} {K:AV->Store->Prop} (hi:env.get i= .int kc (c:Nat)) (hu:P.underlying ty=some (.slice elem))
  (hin:(P.info? elem).map (λi=>(i.zero,i.size,i.bytes))=some (some z,sz,bytes)) (hzs:z.cells.size=sz) (h0:0<sz) (hone:∀v∈z.cells.toList,v.oneCell'=true) (hz:∀τ w,RepL τ w zr z.cells.toList)
  (hb:bytes*c<=281474976710656) (hc:c<1000000000)
  (hk:∀b,b∉σ.keys->K (.sc (.slice (some ⟨b,0,none⟩) c c)) ((b,.cells elem (List.replicate c zr).flatten)::σ)):RAW G P (.makeSlice ty (.tmp i) (.tmp i)) env σ K ⟨⟩:=by
 intro ρ w a op ho hS hE
 have h1:=hE i
 rw[hi]at h1
 simp only[Rep]at h1
 obtain⟨ti,hti,htz⟩:=Option.map_eq_some_iff.1 hin
 simp only[Prod.mk.injEq]at htz
 obtain⟨g1,g2,g3⟩:=htz
 have e3:a.eval (.tmp i)= .int kc (c:Nat):=h1
 have hb':(ti.bytes:Int)*((c:Nat):Int)<=281474976710656:=by
  rw[g3,←Int.natCast_mul];omega
 have hrun:=run_make (P:=P) w ty elem ti z hu hti g1 kc kc (c:Nat) (c:Nat) (by omega) (by omega) hb' (by omega)
 simp only[Int.toNat_natCast,g2]at hrun
 have hnew:(w.alloc (.cells (madeCells z.cells (c*sz)) elem)).heap[w.heap.size]? =some (.cells (madeCells z.cells (c*sz)) elem (0,0)):=heap_alloc_new w _
 have hl:(madeCells z.cells (c*sz)).toList=(List.replicate c z.cells.toList).flatten:=by
  rw[←hzs];exact gw (by omega) c
 refine⟨_,_,.sc (.slice (some ⟨w.heap.size,0,none⟩) c c),_,.inl (by simp[execOp,ho,e3,hrun];exact rfl),hk _ (fH hS),hS.alloc _ _ ⟨_,hnew,?_,?_⟩,Ev.alloc _ _,by simp only[Rep]⟩
 ·intro v hv
  exact hone v (lQ (by omega) hv)
 ·rw[hl]
  exact gW (hz _ _) c
end
section
variable {G:Glob} {b c cap sz:Nat} {e:TypeId} {rows:List (List AV)} {pad:List AV} {σ ρ:Store} {w:World}
theorem Rep.freeze (hS:Sat G ((b,.cells e (rows.flatten++pad))::σ++ρ) w) (hr:∀r∈rows,r.length=sz) (hc:c=rows.length) (hl:rows.length<=cap) (hm:cap<=maxLen):
  Rep (σ++ρ) w (.lst sz rows) (.slice (some ⟨b,0,none⟩) c cap):=by
 subst hc
 obtain⟨vs,hh,h1,hrep⟩:=hS.obj b _ (mem_append.2 (.inl (mem_cons_self ..)))
 have hnd:=hS.nodup
 have hb:b∉(σ++ρ).keys:=by
  rw[cons_append]at hnd
  exact(nodup_cons.1 hnd).1
 have hsub:Sub (σ++ρ) ((b,.cells e (rows.flatten++pad))::σ++ρ):=λp hp=>mem_cons_of_mem _ hp
 have hrl:=hrep.length
 simp only[Rep]
 refine .inr ⟨_,_,rfl,hl,hm,av.of_flat hr ?_⟩
 refine RepAt.of_get λj hj=>?_
 have hj1:j<(rows.flatten++pad).length:=by rw[length_append];omega
 have hj2:j<vs.toList.length:=by omega
 have hg:=hrep.get j hj1 hj2
 rw[getElem_append_left hj]at hg
 rw[Nat.zero_mul,Nat.zero_add,add_lit,Nat.zero_add]
 have hj3:j<vs.size:=by simpa using hj2
 refine⟨vs.toList[j],⟨?_,?_⟩,h1 _ (getElem_mem hj2),Rep.sub hsub hg⟩
 ·simp[World.cell?,hh,hj3]
 ·rintro⟨x,hx,_⟩
  exact hb (mem_map.2 ⟨_,hx,rfl⟩)
theorem Weak.freeze {env:Env} {j:Nat} (hj:env.get j= .sc (.slice (some ⟨b,0,none⟩) c cap)) (hr:∀r∈rows,r.length=sz) (hc:c=rows.length) (hl:rows.length<=cap) (hm:cap<=maxLen):
  Weak G env ((b,.cells e (rows.flatten++pad))::σ) (env.set j (.lst sz rows)) σ:=by
 intro ρ w tmps hS hE
 have hs:SubN σ ((b,.cells e (rows.flatten++pad))::σ):=⟨λp hp=>mem_cons_of_mem _ hp,λhn=>(nodup_cons.1 hn).2⟩
 refine⟨hS.subN hs,Ev.of_sub hs.1 w,λi=>?_⟩
 rw[Env.get_set]
 split
 ·rename_i h0
  rw[←h0]
  have h:=hE j
  rw[hj]at h
  simp only[Rep]at h
  rw[h]
  exact Rep.freeze hS hr hc hl hm
 ·exact Rep.ev (Ev.of_sub hs.1 w) _ _ (hE i)
end
end Go.Av
namespace Go.Av
open Go Go.RowKit Go.Proofs List
set_option linter.unusedSimpArgs false
set_option linter.unusedVariables false
theorem LeReps.refl:∀xs:List AV,LeReps xs xs
 |[]=>.nil
 |x::xs=>.cons (LeRep.refl x) (LeReps.refl xs)
theorem LeReps.at {xs ys:List AV} (h:LeReps xs ys):∀{σ:Store} {w:World} {a:Addr} {i:Nat},RepAt σ w a i xs->RepAt σ w a i ys:=by
 induction h with
 |nil=>intro σ w a i h;exact h
 |cons h1 h2 ih=>
  intro σ w a i h
  simp only[RepAt]at h ⊢
  obtain⟨⟨u,f,o,r⟩,g⟩:=h
  exact⟨⟨u,f,o,h1 _ _ _ r⟩,ih g⟩
theorem LeReps.length {xs ys:List AV} (h:LeReps xs ys):xs.length=ys.length:=by
 induction h with
 |nil=>rfl
 |cons _ _ ih=>rw[length_cons,length_cons,ih]
inductive LeRows:List (List AV)->List (List AV)->Prop
 |nil:LeRows [] []
 |cons {x y xs ys}:LeReps x y->LeRows xs ys->LeRows (x::xs) (y::ys)
theorem LeRows.refl:∀xs:List (List AV),LeRows xs xs
 |[]=>.nil
 |x::xs=>.cons (LeReps.refl x) (LeRows.refl xs)
theorem LeRows.length {xs ys:List (List AV)} (h:LeRows xs ys):xs.length=ys.length:=by
 induction h with
 |nil=>rfl
 |cons _ _ ih=>rw[length_cons,length_cons,ih]
theorem LeRows.rep {xs ys:List (List AV)} (h:LeRows xs ys):∀{σ:Store} {w:World} {a:Addr} {sz i:Nat},av σ w a sz i xs->av σ w a sz i ys:=by
 induction h with
 |nil=>intro σ w a sz i h;exact h
 |cons h1 h2 ih=>
  intro σ w a sz i h
  simp only[av]at h ⊢
  obtain⟨g1,g2,g3⟩:=h
  exact⟨h1.length ▸ g1,h1.at g2,ih g3⟩
theorem LeRep.own {g:Option Nat} {e:TypeId} {sz:Nat} {xs ys:List (List AV)} (h:LeRows xs ys):LeRep (.own g e sz xs) (.lst sz ys):=λσ w u hr=>by
 cases g with
 |none=>
  simp only[Rep]at hr ⊢
  obtain⟨h1,rfl⟩:=hr
  cases h;exact .inl ⟨h1,rfl⟩
 |some b=>
  simp only[Rep]at hr ⊢
  obtain⟨cap,h1,h2,h3,_,h4⟩:=hr
  exact .inr ⟨_,cap,by rw[←h.length];exact h1,by rw[←h.length];exact h2,h3,h.rep h4⟩
theorem LeRep.agg {xs ys:List AV} (h:LeReps xs ys):LeRep (.agg xs) (.agg ys):=λσ w u hr=>by
 simp only[Rep]at hr ⊢
 obtain⟨vs,e,o,hr⟩:=hr
 exact⟨vs,e,o,h.rep hr⟩
theorem LeRep.nil {sz:Nat}:LeRep .nil (.lst sz []):=λσ w u hr=>by
 simp only[Rep]at hr ⊢
 exact .inl ⟨hr,trivial⟩
theorem Pure.lr {G:Glob} {P:Program} {k:FuncId} {args args':List AV} {r:AV} (h:Pure G P k args' r) (ha:LeReps args args'):Pure G P k args r:=⟨h.1,λρ w vs hS hA=>h.2 ρ w vs hS (ha.rep hA)⟩
theorem Weak.refz {G:Glob} {b:Nat} {e:TypeId} {cs:List AV} {σ:Store} {env:Env} {j:Nat} (hj:env.get j= .sc (.pointer (some ⟨b,0,none⟩))):Weak G env ((b,.cells e cs)::σ) (env.set j (.ref cs)) σ:=by
 intro ρ w tmps hS hE
 have hs:SubN σ ((b,.cells e cs)::σ):=⟨λp hp=>mem_cons_of_mem _ hp,λhn=>(nodup_cons.1 hn).2⟩
 refine⟨hS.subN hs,Ev.of_sub hs.1 w,λi=>?_⟩
 rw[Env.get_set]
 split
 ·rename_i h0
  rw[←h0]
  have h:=hE j
  rw[hj]at h
  simp only[Rep]at h
  rw[h]
  obtain⟨vs,hh,h1,hrep⟩:=hS.obj b _ (mem_append.2 (.inl (mem_cons_self ..)))
  have hnd:=hS.nodup
  have hb:b∉(σ++ρ).keys:=by
   rw[cons_append]at hnd
   exact(nodup_cons.1 hnd).1
  have hsub:Sub (σ++ρ) ((b,.cells e cs)::σ++ρ):=λp hp=>mem_cons_of_mem _ hp
  have hrl:=hrep.length
  simp only[Rep]
  refine⟨_,rfl,RepAt.of_get λj hj=>?_⟩
  have hj2:j<vs.toList.length:=by omega
  have hg:=hrep.get j hj hj2
  rw[add_lit,Nat.zero_add]
  have hj3:j<vs.size:=by simpa using hj2
  refine⟨vs.toList[j],⟨?_,?_⟩,h1 _ (getElem_mem hj2),Rep.sub hsub hg⟩
  ·simp[World.cell?,hh,hj3]
  ·rintro⟨x,hx,_⟩
   exact hb (mem_map.2 ⟨_,hx,rfl⟩)
 ·exact Rep.ev (Ev.of_sub hs.1 w) _ _ (hE i)
theorem W_tail3 {G:Glob} {P:Program} {a b c X:SCode} {Q:Exit->Env->Store->Prop} {tQ:Tag Q} {env:Env} {σ:Store} (h:∀Y,Y=X->W G P (.seq a (.seq b (.seq c Y))) Q env σ ⟨⟩):W G P (.seq a (.seq b (.seq c X))) Q env σ tQ:=h X rfl
theorem W_tail2 {G:Glob} {P:Program} {a b X:SCode} {Q:Exit->Env->Store->Prop} {tQ:Tag Q} {env:Env} {σ:Store} (h:∀Y,Y=X->W G P (.seq a (.seq b Y)) Q env σ ⟨⟩):W G P (.seq a (.seq b X)) Q env σ tQ:=h X rfl
section
variable {G:Glob} {P:Program} {env:Env} {σ:Store} {K:Env->Store->Prop} {tK:Tag K}
theorem W_drawT0 {t:DT} {ks:List Nat} {Q:Exit->Env->Store->Prop} {tQ:Tag Q} (h:TR G P t env σ (λenv σ=>∃env' σ',Weak G (env.keep ks) σ env' σ'/\Q .normal env' σ') ⟨⟩):W G P (.drawT t ks) Q env σ tQ:=h
theorem W_seq0 {a b:SCode} {Q:Exit->Env->Store->Prop} {tQ:Tag Q} (h:W G P a (NR (λenv σ=>W G P b Q env σ ⟨⟩) Q ⟨⟩ ⟨⟩) env σ ⟨⟩):W G P (.seq a b) Q env σ tQ:=h
end
end Go.Av
