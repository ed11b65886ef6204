/-
  ENACT, M4: the reference's parent; ancestors.
-/
import Derived.Test.YtnoakpkjccigoaaGreatDoorXL34toXM3
import Derived.Test.YtnoakpkjccigoaaGreatDoorXE10toXAv27
namespace Go.Av
open Go Go.RowKit Go.Proofs List
set_option linter.unusedSimpArgs false
set_option linter.unusedVariables false
section
variable (G:Glob)
def anc (j:Idd) (u:U):List Idd:=((U.way j u).dropLast.map U.id).reverse
theorem f214 (j:Idd) (u:U) (ht:u.Tame):Pure G Tryz.prog 214 [.agg u.cs,.agg j.cs] (.lst 3 ((anc j u).map Idd.cs)):=by
 have hW:=f83 G j u ht
 have hwl:=eF j u
 have hc:=ht.2
 refine Pure.w c214 λR hR=>?_
 unfold s214 r214
 unfold anc at hR
 simp only[Idd.cs]at hW ⊢
 cases hw0:U.way j u with
 |nil=>
  rw[hw0]at hW hR
  simp only[fK]at hW
  (repeat' (first|(with_reducible refine aa hW ?_)|simp only[EVz,seval,↓reduceIte,EV6,EV7]|fail))
  refine ay ([]:List U) (λi r (c:Unit)=>True) (λi c=>[(5,.nil),(6,.nil),(7,.int .i64 (-2))]) (λi c=>[]) () trivial (Weak.rfl' _ _) (by simp) (λi x r c hok hx hw=>?_) (λc hok hn=>?_)
  ·exact absurd hx.lt (by simp)
  ·(repeat' (simp only[EVz,seval,↓reduceIte,EV6,EV7,hn]))
   exact hR _ _ (Or.inl (Or.inr (by simp)))
 |cons y l=>
  have hwne:U.way j u≠[]:=by rw[hw0];simp
  rw[mX hwne]at hW
  obtain⟨L,hL⟩:∃L,U.way j u=L:=⟨_,rfl⟩
  rw[hL]at hW hwl hwne hR
  have hpos:1<=L.length:=by cases L<;>simp_all
  have hwp:IntKind.i64.wrap ((L.length:Int)-2)=(L.length:Int)-2:=aA (by omega) (by omega)
  clear hw0 hL
  have hdl:L.dropLast.reverse.length=L.length-1:=by simp
  (repeat' (first|(with_reducible refine aa hW ?_)|simp only[EVz,seval,↓reduceIte,EV6,EV7,hwp]|fail))
  refine ay (ι:=Option Nat) L.dropLast.reverse (λi r c=>True) (λi c=>[(5,.own c 23 3 ((L.dropLast.reverse.take i).map λx=>x.id.cs)),(6,.lst 8 (L.map U.cs)),(7,.int .i64 ((L.length:Int)-2-i))]) (λi c=>tokS c 23 (i*3)) none trivial (Weak.of (by simp[eJ,Env.get,AVle,aR]) (SubN.refl _)) (by omega) (λi x r c hok hx hw=>?_) (λc hok hn=>?_)
  ·have hi:=hx.lt
   rw[hdl]at hi
   have e1:decide ((0:Int)<=(L.length:Int)-2-i)=true:=decide_eq_true (by omega)
   have w1:IntKind.i64.wrap ((L.length:Int)-2-i-1)=(L.length:Int)-2-((i+1:Nat):Int):=by rw[aA (by omega) (by omega)];omega
   have hn2:((L.length:Int)-2-i).toNat=L.length-2-i:=by omega
   have hg:(L.map U.cs).getD (L.length-2-i) []=x.cs:=by
    have h1:=hx.get noU
    have h2:L.dropLast.reverse[i]? =some x:=by
     rw[getD_eq_getElem?_getD]at h1
     rw[getElem?_eq_getElem (by rw[hdl];exact hi)]at h1 ⊢
     simp at h1 ⊢
     exact h1
    rw[getElem?_reverse (by simp;omega),getElem?_dropLast]at h2
    simp only[length_dropLast]at h2
    rw[show L.length-1-1-i=L.length-2-i by omega,if_pos (by omega)]at h2
    simp only[List.getD,getElem?_map,h2,Option.map_some,Option.getD_some]
   (repeat' (first|(with_reducible refine AI (by omega) ?_)|simp only[EVz,seval,↓reduceIte,EV6,EV7,e1,w1,hn2,hg]|(with_reducible intro blk hblk;(try(have hnx:=hblk;simp only[EVK]at hnx;(have hne:=hnx))))|fail))
   refine gi (n:=i) (m':=(i+1)*3) iR (by rw[length_map,length_take];omega) rfl rfl rfl (by assumption) (by omega) (λgn=>?_)
   refine ap hx gn trivial ?_
   simp only[hx.take,map_append,map_cons,map_nil,Idd.cs]
   exact Weak.rfl' _ _
  ·have e1:decide ((0:Int)<=(L.length:Int)-2-(L.dropLast.reverse.length:Int))=false:=decide_eq_false (by rw[hdl];omega)
   (repeat' (simp only[EVz,seval,↓reduceIte,EV6,EV7,e1]))
   exact hR _ _ (Or.inl (Or.inr ⟨rfl,by rw[take_length,←map_reverse,map_map];rfl⟩))
end
def LeRep (x y:AV):Prop:=∀σ w u,Rep σ w x u->Rep σ w y u
inductive LeReps:List AV->List AV->Prop
 |nil:LeReps [] []
 |cons {x y xs ys}:LeRep x y->LeReps xs ys->LeReps (x::xs) (y::ys)
theorem LeRep.of {x y:AV} (h:AVle x y):LeRep x y:=λ_ _ _ hr=>h.rep hr
theorem LeRep.refl (x:AV):LeRep x x:=λ_ _ _ h=>h
theorem LeReps.rep {xs ys:List AV} (h:LeReps xs ys):∀{σ w us},RepL σ w xs us->RepL σ w ys us:=by
 induction h with
 |nil=>intro σ w us h;exact h
 |cons h1 h2 ih=>
  intro σ w us h
  simp only[RepL]at h ⊢
  obtain⟨u,us',rfl,g1,g2⟩:=h
  exact⟨u,us',rfl,h1 _ _ _ g1,ih g2⟩
theorem LeRep.tup {xs ys:List AV} (h:LeReps xs ys):LeRep (.tup xs) (.tup ys):=λσ w u hr=>by
 simp only[Rep]at hr ⊢
 obtain⟨vs,e,hr⟩:=hr
 exact⟨vs,e,h.rep hr⟩
theorem ag.toPure {G:Glob} {P:Program} {k:FuncId} {args:List AV} {R:AV->Store->Prop} {r0:AV} (h:ag G P k args [] R) (hR:∀r σ',R r σ'->LeRep r r0):Pure G P k args r0:=
 ⟨h.1,λρ w vs hS hA=>(h.2 ρ w vs hS hA).mono (by
  rintro e w' ⟨v,r,σ',rfl,hr,hS',hE,hrep⟩
  exact⟨v,r0,[],rfl,⟨rfl,rfl⟩,hS'.subN (SubN.nil σ'),hE.trans (Ev.of_sub (SubN.nil σ').1 w'),Rep.ev (Ev.of_sub (SubN.nil σ').1 w') _ _ (hR r σ' hr _ _ _ hrep)⟩)⟩
theorem tokF {g:Option Nat} {e:TypeId} {m:Nat} {κ:Store} (hg:∀b,g=some b->b∉κ.keys):∀b,g=some b->Store.get (κ++tokS g e m) b=some (.tok e m):=by
 rintro b rfl
 rw[ak (hg b rfl)]
 simp[tokS,Store.get]
section
variable (G:Glob)
end
def U.wt (u:U):Nat:=(u.flat.map λy=>y.head.length+y.words.length).sum
def U.wts (us:List U):Nat:=((U.flats us).map λy=>y.head.length+y.words.length).sum
theorem U.wt_eq (u:U):u.wt=u.head.length+u.words.length+U.wts u.kids:=by unfold U.wt U.wts;rw[U.flat_eq];simp
theorem U.wts_nil:U.wts []=0:=by unfold U.wts;rw[flats_nil];rfl
theorem U.wts_cons (u:U) (us:List U):U.wts (u::us)=u.wt+U.wts us:=by unfold U.wt U.wts;rw[flats_cons];simp
theorem U.wts_app (a b:List U):U.wts (a++b)=U.wts a+U.wts b:=by unfold U.wts;rw[cJ];simp
theorem lc (a b:Int) (x:U):∀(l:List U) (n m:Int),U.stamps a b (l++[x]) n m=((U.stamps a b l n m).1++[(U.stamp a b x (U.stamps a b l n m).2.1 (U.stamps a b l n m).2.2).1],(U.stamp a b x (U.stamps a b l n m).2.1 (U.stamps a b l n m).2.2).2)
 |[],n,m=>by rw[nil_append,U.stamps_cons,U.stamps_nil,U.stamps_nil];rfl
 |u::l,n,m=>by rw[cons_append,U.stamps_cons,lc a b x l,U.stamps_cons];rfl
theorem o0 (a b:Int):∀(u:U) (n m:Int),(U.stamp a b u n m).2.2=m+u.wt:=by
 refine U.ind λu ih n m=>?_
 have h:∀(us:List U),(∀k∈us,∀n m,(U.stamp a b k n m).2.2=m+k.wt)->∀n m,(U.stamps a b us n m).2.2=m+U.wts us:=by
  intro us
  induction us with
  |nil=>intro _ n m;rw[U.stamps_nil,U.wts_nil];simp
  |cons x us ihu=>
   intro h n m
   rw[U.stamps_cons]
   simp only
   rw[ihu (λk hk=>h k (by simp[hk])),h x (by simp),U.wts_cons]
   omega
 rw[U.stamp_eq]
 simp only
 rw[h u.kids ih,U.wt_eq]
 omega
theorem jo (a b:Int) (us:List U) (n m:Int):(U.stamps a b us n m).2.1=n+(U.flats us).length/\(U.stamps a b us n m).2.2=m+U.wts us/\(U.stamps a b us n m).1.length=us.length:=by
 refine⟨(gL a b (λk _ n m=>kh a b k n m) n m).next,?_,?_⟩
 ·induction us generalizing n m with
  |nil=>rw[U.stamps_nil,U.wts_nil];simp
  |cons x us ih=>
   rw[U.stamps_cons]
   simp only
   rw[ih,o0,U.wts_cons]
   omega
 ·have:=congrArg List.length (gL a b (us:=us) (λk _ n m=>kh a b k n m) n m).key
  simpa using this
theorem app_kept2 {e:TypeId} {sz bytes m:Nat} {g:Option Nat} {rows ys:List (List AV)} {K:AV->Store->Prop} {b1 b2:Nat} {y1 y2:AObj} (κ:Store) (hb1:b1∉Store.keys (κ++tokS g e m)) (hb2:b2∉Store.keys ((b1,y1)::(κ++tokS g e m))) (hg:∀b,g=some b->b∉κ.keys) (hm:m=rows.length*sz) (hnd:κ.keys.Nodup) (hb:(rows.length+ys.length)*bytes<=140737488355328)
  (hk:∀g',(∀b,g'=some b->b∉κ.keys)->K (.own g' e sz (rows++ys)) (κ++tokS g' e ((rows++ys).length*sz))):appX e sz bytes ((b2,y2)::(b1,y1)::(κ++tokS g e m)) g rows ys K:=by
 subst hm
 refine fM κ (λb h=>?_) hb ⟨λq hq=>?_,λ_=>hnd⟩ hk
 ·have h1:=tokF (e:=e) (m:=rows.length*sz) hg b h
  have hkey:b∈Store.keys (κ++tokS g e (rows.length*sz)):=mem_map.2 ⟨_,Store.get_mem h1,rfl⟩
  have h2:b1≠b:=λe=>hb1 (by rw[e];exact hkey)
  have h3:b2≠b:=λe=>hb2 (by rw[e];exact mem_cons_of_mem _ hkey)
  simp only[Store.get,if_neg h2,if_neg h3]
  exact h1
 ·cases g with
  |none=>exact mem_cons_of_mem _ (mem_cons_of_mem _ (mem_append.2 (.inl hq)))
  |some b=>
   refine mem_filter.2 ⟨mem_cons_of_mem _ (mem_cons_of_mem _ (mem_append.2 (.inl hq))),?_⟩
   have:q.1≠b:=λh=>hg b rfl (by rw[←h];exact mem_map.2 ⟨q,hq,rfl⟩)
   simpa using this
section
variable (G:Glob)
end
def msr (l:List U):Nat:=(l.map λx=>x.flat.length).sum
theorem mi:msr []=0:=rfl
theorem cM (x:U) (l:List U):msr (x::l)=x.flat.length+msr l:=by simp[msr]
theorem jJ (a b:List U):msr (a++b)=msr a+msr b:=by simp[msr]
theorem gg:∀l:List U,l.length<=msr l
 |[]=>Nat.le_refl _
 |x::l=>by have:=gg l;have:=x.flat_pos;rw[cM,length_cons];omega
theorem jm:∀us:List U,msr us=(U.flats us).length
 |[]=>by rw[flats_nil];rfl
 |u::us=>by rw[cM,jm us,flats_cons,length_append]
theorem il (p:U->Bool):∀l:List U,msr (l.filter p)<=msr l
 |[]=>Nat.le_refl _
 |x::l=>by
  have:=il p l
  rw[filter_cons]
  split
  ·rw[cM,cM];omega
  ·rw[cM];omega
theorem iG (s:Stp):∀l:List U,msr (aK l s)<=msr l
 |[]=>Nat.le_refl _
 |x::l=>by
  have h1:=iG s l
  have h2:=il (λk=>aL k s) x.kids
  have h3:msr x.kids=x.flat.length-1:=by rw[jm,U.flat_eq];simp
  have e:aK (x::l) s=x.kids.filter (λk=>aL k s)++aK l s:=by simp[aK]
  rw[e,jJ,cM];omega
theorem mw {u x:U} (hx:x∈u.flat):x.flat.length<=u.flat.length:=by
 revert hx
 refine U.ind (p:=λu=>x∈u.flat->x.flat.length<=u.flat.length) (λu ih hx=>?_) u
 rw[U.flat_eq]at hx
 rcases mem_cons.1 hx with rfl|hx
 ·exact Nat.le_refl _
 ·obtain⟨y,hy,hx⟩:=bN hx
  have h1:=ih y hy hx
  have h2:=U.flats_mem hy
  rw[U.flat_eq u,length_cons];omega
theorem msr_le {N:Nat}:∀{l:List U},(∀x∈l,x.flat.length<=N)->msr l<=l.length*N
 |[],_=>Nat.zero_le _
 |x::l,h=>by
  have h1:=msr_le (l:=l) λy hy=>h y (by simp[hy])
  have h2:=h x (by simp)
  rw[cM,length_cons,Nat.add_mul];omega
theorem msr_flat (u:U):msr u.flat<=u.flat.length*u.flat.length:=msr_le λx hx=>mw hx
def dV (u:U) (s:Stp):List U:=if mF s then [u]else u.flat.filter λx=>aL x s
theorem j6 (u:U) (s:Stp):msr (dV u s)<=u.flat.length*u.flat.length:=by
 unfold dV
 split
 ·have:=u.flat_pos
  rw[cM,mi]
  exact Nat.le_mul_of_pos_right _ this
 ·exact Nat.le_trans (il _ _) (msr_flat u)
theorem lF:∀(r:List Stp) (l:List U),msr (r.foldl aK l)<=msr l
 |[],l=>Nat.le_refl _
 |s::r,l=>Nat.le_trans (lF r (aK l s)) (iG s l)
theorem lI (u:U) (p:List Stp):(fY u p).length<=u.flat.length*u.flat.length:=by
 refine Nat.le_trans (gg _) ?_
 unfold fY
 split
 ·exact Nat.zero_le _
 ·split
  ·have:=u.flat_pos
   rw[cM,mi]
   exact Nat.le_mul_of_pos_right _ this
  ·exact Nat.le_trans (lF _ _) (j6 u _)
theorem ll (l:List U) (x:U) (s:Stp):aK (l++[x]) s=aK l s++x.kids.filter λk=>aL k s:=by simp[aK]
def zPre (l:List U) (y:Stp) (ks:List U) (j k:Nat):List U:=aK (l.take j) y++(ks.take k).filter λx=>aL x y
theorem zPre_zero (l:List U) (y:Stp) (ks:List U) (j:Nat):zPre l y ks j 0=aK (l.take j) y:=by simp[zPre]
theorem zPre_full (l:List U) (y:Stp) (ks:List U) (j:Nat):zPre l y ks j ks.length=aK (l.take j) y++ks.filter λx=>aL x y:=by simp[zPre]
theorem zPre_len (l:List U) (y:Stp) (ks:List U) (j k:Nat):(zPre l y ks j k).length=(aK (l.take j) y).length+((ks.take k).filter λx=>aL x y).length:=by simp[zPre]
theorem zPre_yes {l:List U} {y:Stp} {ks:List U} {j k:Nat} {q:U} {r:List U} (hq:Rest ks k q r) (hc:aL q y=true):zPre l y ks j (k+1)=zPre l y ks j k++[q]:=by
 unfold zPre
 rw[hq.take,filter_append,append_assoc]
 simp[hc]
theorem zPre_not {l:List U} {y:Stp} {ks:List U} {j k:Nat} {q:U} {r:List U} (hq:Rest ks k q r) (hc:aL q y=false):zPre l y ks j (k+1)=zPre l y ks j k:=by
 unfold zPre
 rw[hq.take,filter_append]
 simp[hc]
section
variable (G:Glob)
end
def lH (u:U) (p:List Stp):AV:=.tup [.agg [.int .i64 (one u p).1.act,.int .i64 (one u p).1.item,.int .i64 (one u p).1.n],.int .i64 (one u p).2]
section
variable (G:Glob)
end
def Dd.cs (d:Dd):List AV:=.int .i64 d.act:: .int .i64 d.item:: .int .i64 d.day::d.it.cs
def aO (q:U×Int):AV:=.tup [.agg q.1.cs,.int .i64 q.2]
structure Unit0 (d:Dd):Prop where
 nodes:∀y∈d.it.unit.flat,nodeOk y=true
 cnt:d.it.unit.flat.length<=1024
theorem wt_le {u:U} (h:∀y∈u.flat,nodeOk y=true):u.wt<=u.flat.length*512:=by
 unfold U.wt
 have:∀l:List U,(∀y∈l,nodeOk y=true)->(l.map λy=>y.head.length+y.words.length).sum<=l.length*512:=by
  intro l
  induction l with
  |nil=>intro _;simp
  |cons x l ih=>
   intro h
   have h1:=ih λy hy=>h y (by simp[hy])
   have h2:=dN (h x (by simp))
   have h3:=h2.head.1
   have h4:=h2.words.1
   rw[map_cons,sum_cons,length_cons]
   omega
 exact this u.flat h
section
variable (G:Glob)
end
abbrev K5:=Idd×Int×List UInt8×List Wd×List Wd
def U.k5 (y:U):K5:=(y.id,y.kind,y.label,y.head,y.words)
def U.all5 (u:U):List K5:=u.flat.map U.k5
def U.alls5 (us:List U):List K5:=(U.flats us).map U.k5
theorem U.all5_eq (u:U):u.all5=u.k5::U.alls5 u.kids:=by unfold U.all5 U.alls5;rw[U.flat_eq];rfl
theorem U.alls5_nil:U.alls5 []=[]:=by unfold U.alls5;rw[flats_nil];rfl
theorem U.alls5_cons (u:U) (us:List U):U.alls5 (u::us)=u.all5++U.alls5 us:=by unfold U.alls5 U.all5;rw[flats_cons,map_append]
theorem U.alls5_app (a b:List U):U.alls5 (a++b)=U.alls5 a++U.alls5 b:=by unfold U.alls5;rw[cJ,map_append]
theorem ma {i:Idd} {f:U->U} (u:U) (hn:u.ids.Nodup) (hi:i∈u.ids):∃l r,u.all5=l++((fnd i u).all5++r)/\(U.wth i f u).all5=l++((f (fnd i u)).all5++r):=by
 refine U.wayInd (i:=i) (p:=λu=>∃l r,u.all5=l++((fnd i u).all5++r)/\(U.wth i f u).all5=l++((f (fnd i u)).all5++r)) ?_ ?_ u hn hi
 ·intro u _ h
  have e:fnd i u=u:=aB (by rw[aN h];rfl)
  refine⟨[],[],?_,?_⟩
  ·rw[e];simp
  ·rw[bA h,e];simp
 ·intro u a k b hn h s ⟨l,r,e1,e2⟩
  rw[s.fnd hn s.mem]
  refine⟨u.k5::(U.alls5 a++l),r++U.alls5 b,?_,?_⟩
  ·rw[U.all5_eq,s.eq,U.alls5_app,U.alls5_cons,e1];simp[append_assoc]
  ·rw[s.wth h,U.all5_eq,show({u with kids:=a++U.wth i f k::b}:U).k5=u.k5 from rfl]
   simp only
   rw[U.alls5_app,U.alls5_cons,e2];simp[append_assoc]
theorem k5_ins {u:U} (hn:u.ids.Nodup) {q:Idd} (hq:q∈u.ids) (k:Nat) (x:U):∃A B,u.all5=A++B/\(U.wth q (λy=>{y with kids:=insAt y.kids k x}) u).all5=A++(x.all5++B):=by
 obtain⟨l,r,e1,e2⟩:=ma (f:=λy=>{y with kids:=insAt y.kids k x}) u hn hq
 refine⟨l++((fnd q u).k5::U.alls5 ((fnd q u).kids.take k)),U.alls5 ((fnd q u).kids.drop k)++r,?_,?_⟩
 ·rw[e1,U.all5_eq]
  conv=>lhs;rw[←take_append_drop k (fnd q u).kids]
  rw[U.alls5_app];simp[append_assoc]
 ·rw[e2,U.all5_eq,show({fnd q u with kids:=insAt (fnd q u).kids k x}:U).k5=(fnd q u).k5 from rfl]
  unfold insAt
  simp only
  rw[U.alls5_app,U.alls5_cons];simp[append_assoc]
theorem k5_del {u:U} (hn:u.ids.Nodup) {i:Idd} (hi:i∈u.ids) (hne:u.id≠i):∃A B,u.all5=A++((fnd i u).all5++B)/\(without i u).all5=A++B:=by
 obtain⟨own,d,j,w1,w2,hp⟩:=bt hn hi hne
 obtain⟨a,x,b,s,hx,hj,hl⟩:=hp.split
 have hfx:fnd i u=x:=aB hl
 subst hj
 have hW:without i u=U.wth own.id (λy=>{y with kids:=delAt y.kids a.length}) u:=by unfold without;rw[w1]
 rw[hW,hfx]
 obtain⟨l,r,e1,e2⟩:=ma (f:=λy=>{y with kids:=delAt y.kids a.length}) u hn hp.mem
 rw[hp.fnd]at e1 e2
 rw[s.eq,bO]at e2
 refine⟨l++(own.k5::U.alls5 a),U.alls5 b++r,?_,?_⟩
 ·rw[e1,U.all5_eq,s.eq,U.alls5_app,U.alls5_cons];simp[append_assoc]
 ·rw[e2,U.all5_eq,show({own with kids:=a++b}:U).k5=own.k5 from rfl]
  simp only
  rw[U.alls5_app];simp[append_assoc]
theorem kU {u:U} (hn:u.ids.Nodup) {i:Idd} (hi:i∈u.ids) {f:U->U} (hf:∀y,(f y).kids=y.kids):∃A B,u.all5=A++((fnd i u).k5::B)/\(U.wth i f u).all5=A++((f (fnd i u)).k5::B):=by
 obtain⟨l,r,e1,e2⟩:=ma (f:=f) u hn hi
 refine⟨l,U.alls5 (fnd i u).kids++r,?_,?_⟩
 ·rw[e1,U.all5_eq];simp
 ·rw[e2,U.all5_eq,hf];simp
/-! ### an item that fails changes nothing -/
theorem insP_err {u:U} {i:Idd} {d:Dd} (h:(insP u i d).2≠0):(insP u i d).1=u:=by
 unfold insP at h ⊢
 (repeat' split)<;>(try rfl)
 all_goals(exfalso;simp_all)
theorem movP_err {u:U} {i t:Idd} {d:Dd} (h:(movP u i t d).2≠0):(movP u i t d).1=u:=by
 unfold movP at h ⊢
 (repeat' split)<;>(try rfl)
 all_goals(exfalso;simp_all)
theorem doP_err {u:U} {d:Dd} (h:(doP u d).2≠0):(doP u d).1=u:=by
 unfold doP at h ⊢
 split
 ·rfl
 rename_i c1
 rw[if_neg c1]at h
 split
 ·rfl
 rename_i c2
 rw[if_neg c2]at h
 split
 ·rename_i c3
  rw[if_pos c3]at h
  exact insP_err h
 rename_i c3
 rw[if_neg c3]at h
 split
 ·split<;>rfl
 rename_i c4
 rw[if_neg c4]at h
 split
 ·rename_i c5
  rw[if_pos c5]at h;exact absurd rfl h
 rename_i c5
 rw[if_neg c5]at h
 split
 ·rename_i c6
  rw[if_pos c6]at h
  split
  ·rfl
  ·rename_i c7;rw[if_neg c7]at h;exact absurd rfl h
 rename_i c6
 rw[if_neg c6]at h
 split
 ·rename_i c7
  rw[if_pos c7]at h;exact absurd rfl h
 rename_i c7
 rw[if_neg c7]at h
 split
 ·rename_i c8
  rw[if_pos c8]at h
  split
  ·rfl
  ·rename_i c9;rw[if_neg c9]at h;exact absurd rfl h
 rename_i c8
 rw[if_neg c8]at h
 split
 ·rfl
 rename_i c9
 rw[if_neg c9]at h
 exact movP_err h
/-! ### the document's words for the same -/
/-! ### sizes -/
def wt5 (k:K5):Nat:=1+k.2.2.2.2.length / 50+k.2.2.2.1.length / 50+k.2.2.1.length / 50
def wtL (L:List K5):Nat:=(L.map wt5).sum
theorem wtL_nil:wtL []=0:=rfl
theorem fW (k:K5) (L:List K5):wtL (k::L)=wt5 k+wtL L:=by simp[wtL]
theorem bR (A B:List K5):wtL (A++B)=wtL A+wtL B:=by simp[wtL]
theorem stamp_wt (a b:Int):∀(u:U) (n m:Int),wtL (U.stamp a b u n m).1.all5=wtL u.all5:=by
 refine U.ind λu ih n m=>?_
 have h:∀(us:List U),(∀k∈us,∀n m,wtL (U.stamp a b k n m).1.all5=wtL k.all5)->∀n m,wtL (U.alls5 (U.stamps a b us n m).1)=wtL (U.alls5 us):=by
  intro us
  induction us with
  |nil=>intro _ n m;rw[U.stamps_nil]
  |cons x us ihu=>
   intro h n m
   rw[U.stamps_cons]
   simp only
   rw[U.alls5_cons,U.alls5_cons,bR,bR,h x (by simp),ihu (λk hk=>h k (by simp[hk]))]
 rw[U.stamp_eq,U.all5_eq,U.all5_eq u,fW,fW]
 simp only
 rw[h u.kids ih]
 congr 1
 simp[wt5,U.k5,cH]
theorem all5_node {v:U} {k:K5} (hk:k∈v.all5):∃y∈v.flat,y.k5=k:=mem_map.1 hk
theorem wt5_node {v:U} (h:Good v) {k:K5} (hk:k∈v.all5):wt5 k<=11:=by
 obtain⟨y,hy,rfl⟩:=all5_node hk
 have s:=dN (h.node y hy)
 have h1:=s.label
 have h2:=s.head.1
 have h3:=s.words.1
 simp only[wt5,U.k5]
 omega
theorem o7 {u:U} (h:Good u):treeOk2 u=true:=by
 unfold treeOk2
 simp only[Bool.and_eq_true,decide_eq_true_eq]
 refine⟨all_eq_true.2 h.node,by have:=h.dep;unfold U.dep;omega,by have:=h.cnt;unfold U.cnt;omega,?_⟩
 unfold idsOk
 rw[Bool.or_eq_true,Bool.and_eq_true,decide_eq_true_eq,decide_eq_true_eq]
 refine .inr ⟨?_,h.nd⟩
 rw[decide_eq_decide]
 exact h.root.symm
/-! ### from nothing -/
def eQ:U:=⟨zId,0,[],[],[],[]⟩
theorem lf:Good eQ:=by
 have hf:eQ.flat=[eQ]:=by rw[U.flat_eq];show eQ::U.flats []=_;rw[flats_nil]
 refine⟨?_,?_,?_,?_,⟨λ_=>rfl,λ_=>rfl⟩,λh=>absurd rfl h⟩
 ·unfold U.ids;rw[hf];simp
 ·rw[hf]
  intro y hy
  simp only[mem_singleton]at hy
  subst hy
  decide
 ·rw[U.deep_eq];show U.deeps []<=8;rw[U.deeps];omega
 ·rw[hf];simp
end Go.Av
