/-
  ENACT, M2: parents; the reference's own looks into trees.
-/
import Derived.Test.YtnoakpkjccigoaaGreatDoorVXL28toXL31
import Derived.Test.YtnoakpkjccigoaaGreatDoorVXL32toXL54
import Derived.Test.YtnoakpkjccigoaaGreatDoorVXE12toXL29
import Derived.Test.YtnoakpkjccigoaaGreatDoorVXL18toXOpI
namespace Go.Av
open Go Go.RowKit Go.Proofs List
set_option linter.unusedSimpArgs false
set_option linter.unusedVariables false
theorem kP {α:Type} (p:α->Bool):∀(l:List α) (i k:Nat),cf p l=some k->idxF p i l=((i+k:Nat):Int)
 |[],i,k,h=>by cases h
 |x::l,i,k,h=>by
  rw[cf]at h
  rw[idxF]
  cases D:p x with
  |true=>rw[D]at h;simp only[if_true]at h ⊢;injection h with h;subst h;rfl
  |false=>
   rw[D]at h
   simp only[Bool.false_eq_true,if_false]at h ⊢
   obtain⟨F,E,rfl⟩:=Option.map_eq_some_iff.1 h
   rw[kP p l (i+1) F E]
   omega
def gW (j:Idd) (u:U):AV:=match aF j u with
 |some (p,_,k)=>.tup [.agg p.id.cs,.int .i64 k,.bool true]
 |none=>.tup [.agg [.int .i64 0,.int .i64 0,.int .i64 0],.int .i64 (-1),.bool false]
section
variable (G:Glob)
theorem f220k (σ:Store) (f:Value) (p:U->Bool) (l:List U) (N:l.length<9000000000000000000) (I:∀x∈l,cd G Tryz.prog f [.agg x.cs] σ λr σ'=>r= .bool (p x)/\σ'=σ):
  ag G Tryz.prog 220 [.lst 8 (l.map U.cs),.sc f] σ λr σ'=>r= .int .i64 (idxF p 0 l)/\σ'=σ:=by
 refine ag.wk c220 λR F=>?_
 unfold s220 r220
 (repeat' (first|(with_reducible (refine ab (λh=>?_) (λh=>?_))<;>(try simp only[DZ]at h))|simp only[EVz,seval,↓reduceIte,EV6,EV7,E.yes,E.le0,E.lt',E.get,E.row,M]|simp only[EVz,seval,↓reduceIte,EV6,EV7,J]|simp only[EVz,seval,↓reduceIte,EV6,EV7]|(refine ap E () ?_ (Weak.rfl' _ _))|(refine ay l (λi r (c:Unit)=>idxF p 0 l=idxF p i r) (λi c=>[(0,.lst 8 (l.map U.cs)),(1,.sc f),(7,.int .i64 l.length),(8,.int .i64 i)]) (λ_ _=>σ) () rfl (Weak.rfl' _ _) (by omega) (λi x r c D E M=>?_) (λc D J=>?_))|(refine ec (I _ E.mem) ?_)))
 ·refine F _ _ (.inl (.inl ?_)) (SubN.refl _)
  rw[D,idxF,if_pos h]
 ·rw[D,idxF,h];rfl
 ·refine F _ _ (.inl (.inl ?_)) (SubN.refl _)
  rw[D];rfl
theorem f215k (σ:Store) (f:Value) (p:U->Bool) (l:List U) (I:l.length<9000000000000000000) (F:∀x∈l,cd G Tryz.prog f [.agg x.cs] σ λr σ'=>r= .bool (p x)/\σ'=σ):
  ag G Tryz.prog 215 [.lst 8 (l.map U.cs),.sc f] σ λr σ'=>r= .bool (l.any p)/\σ'=σ:=by
 refine ag.wk c215 λR E=>?_
 unfold s215 r215
 have D:=f220k G σ f p l I F
 (repeat' (first|simp only[EVz,seval,↓reduceIte,EV6,EV7]|(refine ec D.v ?_)))
 exact E _ _ (.inl (.inl (congrArg AV.bool (d7 p l 0)))) (SubN.refl _)
theorem f221 (b:Nat) (j:Idd) (u:U) (O:u.Tame):ag G Tryz.prog 221 [.agg u.cs,.sc (.pointer (some ⟨b,0,none⟩))] [(b,.cells 23 j.cs)] λr σ'=>r= .bool (!(U.way j u).isEmpty)/\σ'=[(b,.cells 23 j.cs)]:=by
 have E:=f83 G j u O
 refine ag.wk c221 λR I=>?_
 unfold s221 r221
 simp only[Idd.cs]at E
 cases J:U.way j u with
 |nil=>
  rw[J]at E I
  simp only[fK]at E
  (repeat' (first|(with_reducible refine aa E ?_)|simp only[EVz,seval,↓reduceIte,EV6,EV7]))
  exact I _ _ (AVle.rfl' _) (SubN.refl _)
 |cons x l=>
  rw[J]at E I
  simp only[fK,map_cons]at E
  (repeat' (first|(with_reducible refine aa E ?_)|simp only[EVz,seval,↓reduceIte,EV6,EV7]|(with_reducible intro M D;(try(have F:=D;simp only[EVK]at F;(have N:=F))))))
  have:=D (by simp)
  subst this
  exact I _ _ (AVle.rfl' _) (SubN.refl _)
theorem f131 (j:Idd) (u:U) (hs:u.Short) (hn:u.ids.Nodup):Pure G Tryz.prog 131 [.agg u.cs,.agg j.cs] (gW j u):=by
 have O:=f83 G j u hs.1
 have bb:=eF j u
 have hc:=hs.1.2
 refine Pure.w c131 λR hR=>?_
 unfold s131 r131
 unfold gW at hR
 simp only[Idd.cs]at O ⊢
 by_cases hi:j∈u.ids/\u.id≠j
 ·obtain⟨p,d,k,e1,e2,Z⟩:=bt hn hi.1 hi.2
  rw[e1]at hR
  obtain⟨a,x,b,s,hx,hj,hl⟩:=Z.split
  have ba:p∈u.flat:=by
   have:=aP u hn Z.mem
   rw[Z.fnd]at this;exact this
  have ah:=hs.node ba
  have J:=Z.path
  have M:=Z.deep
  have I:=Z.last
  obtain⟨q,hq⟩:∃q,U.way p.id u=q:=⟨_,rfl⟩
  rw[hq]at J M I
  have N:(U.way j u).length=d+2:=by rw[J];simp;omega
  have al:U.way j u≠[]:=by intro e;rw[e]at N;simp at N
  rw[mX al]at O
  have hg:((U.way j u).map U.cs).getD d []=p.cs:=by
   have V:(U.way j u)[d]? =some p:=by
    rw[J,getElem?_append_left (by omega)]
    rw[getLast?_eq_getElem?,M]at I
    simpa using I
   simp only[List.getD,getElem?_map,V,Option.map_some,Option.getD_some]
  obtain⟨L,hL⟩:∃L,U.way j u=L:=⟨_,rfl⟩
  rw[hL]at O N hg bb
  have an:IntKind.i64.wrap ((L.length:Int)-2)=(d:Int):=by rw[aA (by omega) (by omega)];omega
  have bd:=ah.1.kids
  have aw:idxF (λk=>!(U.way j k).isEmpty) 0 p.kids=(k:Int):=by
   rw[kP _ _ 0 k (by rw[s.no_way,hj])];simp
  have e0:decide ((L.length:Int)<2)=false:=decide_eq_false (by omega)
  (repeat' (first|(with_reducible first|refine AI (by omega) ?_|refine aa O ?_)|simp only[EVz,seval,↓reduceIte,EV6,EV7,an,hg,e0,D]|simp only[EVz,seval,↓reduceIte,EV6,EV7,an,hg,e0]|(with_reducible intro T F;(try(have E:=F;simp only[EVK]at E;first|(have D:=AI E D)|(have D:=E))))))
  rename_i Y _ _ _ b2 _ _ _
  have hI:=f220k G [(Y,.cells 23 j.cs)] (.func (.func 221) #[] #[.pointer (some ⟨Y,0,none⟩)]) (λk=>!(U.way j k).isEmpty) p.kids (by omega)
   (λy hy=>⟨_,_,_,rfl,f221 G Y j y (ah.1.kid hy)⟩)
  rw[aw]at hI
  refine aZ [(Y,.cells 23 j.cs)] [(T,.cells 27 p.cs),(b2,.cells 23 [.int .i64 0,.int .i64 0,.int .i64 0])] hI.v (ax.rfl' _) (SubN.perm perm_append_comm) ?_
  rintro _ _ ⟨rfl,rfl⟩
  have n1:¬Y=b2:=λe=>D.2.1 e.symm
  have n2:¬Y=T:=λe=>D.1.2 e.symm
  (repeat' (simp only[EVz,seval,↓reduceIte,EV6,EV7,D,n1,n2,cons_append,nil_append]))
  exact hR _ _ (Or.inl (Or.inl rfl))
 ·have X:aF j u=none:=by
   by_cases V:j∈u.ids
   ·exact cB (Classical.byContradiction λh2=>hi ⟨V,h2⟩)
   ·unfold aF
    rw[(cO u).2 V]
    rfl
  rw[X]at hR
  have ac:(U.way j u).length<2:=by
   by_cases V:j∈u.ids
   ·rw[aN (Classical.byContradiction λh2=>hi ⟨V,h2⟩)];simp
   ·rw[(cO u).2 V];simp
  cases hw:U.way j u with
  |nil=>
   rw[hw]at O
   simp only[fK]at O
   (repeat' (first|(with_reducible refine aa O ?_)|simp only[EVz,seval,↓reduceIte,EV6,EV7,D]|simp only[EVz,seval,↓reduceIte,EV6,EV7]|(with_reducible intro T F;(try(have E:=F;simp only[EVK]at E;first|(have D:=AI E D)|(have D:=E))))))
   exact hR _ _ (Or.inl (Or.inl rfl))
  |cons x l=>
   rw[hw]at O ac
   simp only[fK,map_cons]at O
   simp only[length_cons]at ac
   have e0:decide (((l.length+1:Nat):Int)<2)=true:=decide_eq_true (by omega)
   (repeat' (first|(with_reducible refine aa O ?_)|simp only[EVz,seval,↓reduceIte,EV6,EV7,e0,D]|simp only[EVz,seval,↓reduceIte,EV6,EV7,e0]|(with_reducible intro T F;(try(have E:=F;simp only[EVK]at E;first|(have D:=AI E D)|(have D:=E))))))
   exact hR _ _ (Or.inl (Or.inl rfl))
end
theorem ph (a b:Int) (l:List (List UInt8)) (m:Int) {i:Nat} {s:List UInt8} {r:List (List UInt8)} (D:Rest l i s r):aX a b (l.take (i+1)) m=aX a b (l.take i) m++[⟨s,a,b,m+i⟩]:=by
 have h:(l.take i).length=i:=by rw[length_take];have:=D.lt;omega
 rw[D.take,lZ,h]
 rfl
section
variable (G:Glob)
end
section
variable (G:Glob)
def anc (j:Idd) (u:U):List Idd:=((U.way j u).dropLast.map U.id).reverse
theorem f214 (j:Idd) (u:U) (ht:u.Tame):Pure G Tryz.prog 214 [.agg u.cs,.agg j.cs] (.lst 3 ((anc j u).map Idd.cs)):=by
 have E:=f83 G j u ht
 have ac:=eF j u
 have hc:=ht.2
 refine Pure.w c214 λR N=>?_
 unfold s214 r214
 unfold anc at N
 simp only[Idd.cs]at E ⊢
 cases J:U.way j u with
 |nil=>
  rw[J]at E N
  simp only[fK]at E
  (repeat' (first|(with_reducible refine aa E ?_)|simp only[EVz,seval,↓reduceIte,EV6,EV7]))
  refine ay ([]:List U) (λi r (c:Unit)=>True) (λi c=>[(5,.nil),(6,.nil),(7,.int .i64 (-2))]) (λi c=>[]) () trivial (Weak.rfl' _ _) (by simp) (λi x r c I M hw=>?_) (λc I hn=>?_)
  ·exact absurd M.lt (by simp)
  ·(repeat' (simp only[EVz,seval,↓reduceIte,EV6,EV7,hn]))
   exact N _ _ (Or.inl (Or.inr (by simp)))
 |cons y l=>
  have D:U.way j u≠[]:=by rw[J];simp
  rw[mX D]at E
  obtain⟨L,hL⟩:∃L,U.way j u=L:=⟨_,rfl⟩
  rw[hL]at E ac D N
  have al:1<=L.length:=by cases L<;>simp_all
  have ah:IntKind.i64.wrap ((L.length:Int)-2)=(L.length:Int)-2:=aA (by omega) (by omega)
  clear J hL
  have F:L.dropLast.reverse.length=L.length-1:=by simp
  (repeat' (first|(with_reducible refine aa E ?_)|simp only[EVz,seval,↓reduceIte,EV6,EV7,ah]))
  refine ay (ι:=Option Nat) L.dropLast.reverse (λi r c=>True) (λi c=>[(5,.own c 23 3 ((L.dropLast.reverse.take i).map λx=>x.id.cs)),(6,.lst 8 (L.map U.cs)),(7,.int .i64 ((L.length:Int)-2-i))]) (λi c=>tokS c 23 (i*3)) none trivial (Weak.of (by simp[eJ,Env.get,AVle,aR]) (SubN.refl _)) (by omega) (λi x r c I M hw=>?_) (λc I hn=>?_)
  ·have hi:=M.lt
   rw[F]at hi
   have Y:decide ((0:Int)<=(L.length:Int)-2-i)=true:=decide_eq_true (by omega)
   have w1:IntKind.i64.wrap ((L.length:Int)-2-i-1)=(L.length:Int)-2-((i+1:Nat):Int):=by rw[aA (by omega) (by omega)];omega
   have Z:((L.length:Int)-2-i).toNat=L.length-2-i:=by omega
   have hg:(L.map U.cs).getD (L.length-2-i) []=x.cs:=by
    have V:=M.get noU
    have X:L.dropLast.reverse[i]? =some x:=by
     rw[getD_eq_getElem?_getD]at V
     rw[getElem?_eq_getElem (by rw[F];exact hi)]at V ⊢
     simp at V ⊢
     exact V
    rw[getElem?_reverse (by simp;omega),getElem?_dropLast]at X
    simp only[length_dropLast]at X
    rw[show L.length-1-1-i=L.length-2-i by omega,if_pos (by omega)]at X
    simp only[List.getD,getElem?_map,X,Option.map_some,Option.getD_some]
   (repeat' (first|(with_reducible refine AI (by omega) ?_)|simp only[EVz,seval,↓reduceIte,EV6,EV7,Y,w1,Z,hg]|(with_reducible intro an O;(try(have T:=O;simp only[EVK]at T;(have aw:=T))))))
   refine gi (n:=i) (m':=(i+1)*3) iR (by rw[length_map,length_take];omega) rfl rfl rfl (by assumption) (by omega) (λgn=>?_)
   refine ap M gn trivial ?_
   simp only[M.take,map_append,map_cons,map_nil,Idd.cs]
   exact Weak.rfl' _ _
  ·have Y:decide ((0:Int)<=(L.length:Int)-2-(L.dropLast.reverse.length:Int))=false:=decide_eq_false (by rw[F];omega)
   (repeat' (simp only[EVz,seval,↓reduceIte,EV6,EV7,Y]))
   exact N _ _ (Or.inl (Or.inr ⟨rfl,by rw[take_length,←map_reverse,map_map];rfl⟩))
end
def LeRep (x y:AV):Prop:=∀σ w u,Rep σ w x u->Rep σ w y u
inductive LeReps:List AV->List AV->Prop
 |nil:LeReps [] []
 |cons {x y xs ys}:LeRep x y->LeReps xs ys->LeReps (x::xs) (y::ys)
theorem LeRep.of {x y:AV} (h:AVle x y):LeRep x y:=λ_ _ _ D=>h.rep D
theorem LeRep.refl (x:AV):LeRep x x:=λ_ _ _ h=>h
theorem LeReps.rep {xs ys:List AV} (h:LeReps xs ys):∀{σ w us},RepL σ w xs us->RepL σ w ys us:=by
 induction h with
 |nil=>intro σ w us h;exact h
 |cons h1 h2 ih=>
  intro σ w us h
  simp only[RepL]at h ⊢
  obtain⟨u,D,rfl,E,F⟩:=h
  exact⟨u,D,rfl,h1 _ _ _ E,ih F⟩
theorem LeRep.tup {xs ys:List AV} (h:LeReps xs ys):LeRep (.tup xs) (.tup ys):=λσ w u D=>by
 simp only[Rep]at D ⊢
 obtain⟨vs,e,D⟩:=D
 exact⟨vs,e,h.rep D⟩
theorem ag.toPure {G:Glob} {P:Program} {k:FuncId} {args:List AV} {R:AV->Store->Prop} {r0:AV} (h:ag G P k args [] R) (J:∀r σ',R r σ'->LeRep r r0):Pure G P k args r0:=
 ⟨h.1,λρ w vs M F=>(h.2 ρ w vs M F).mono (by
  rintro e w' ⟨v,r,σ',rfl,N,E,I,D⟩
  exact⟨v,r0,[],rfl,⟨rfl,rfl⟩,E.subN (SubN.nil σ'),I.trans (Ev.of_sub (SubN.nil σ').1 w'),Rep.ev (Ev.of_sub (SubN.nil σ').1 w') _ _ (J r σ' N _ _ _ D)⟩)⟩
theorem tokF {g:Option Nat} {e:TypeId} {m:Nat} {κ:Store} (D:∀b,g=some b->b∉κ.keys):∀b,g=some b->Store.get (κ++tokS g e m) b=some (.tok e m):=by
 rintro b rfl
 rw[ak (D b rfl)]
 simp[tokS,Store.get]
section
variable (G:Glob)
end
def U.wt (u:U):Nat:=(u.flat.map λy=>y.head.length+y.words.length).sum
def U.wts (us:List U):Nat:=((U.flats us).map λy=>y.head.length+y.words.length).sum
theorem U.wt_eq (u:U):u.wt=u.head.length+u.words.length+U.wts u.kids:=by unfold U.wt U.wts;rw[U.flat_eq];simp
theorem U.wts_nil:U.wts []=0:=by unfold U.wts;rw[pp];rfl
theorem U.wts_cons (u:U) (us:List U):U.wts (u::us)=u.wt+U.wts us:=by unfold U.wt U.wts;rw[pk];simp
theorem U.wts_app (a b:List U):U.wts (a++b)=U.wts a+U.wts b:=by unfold U.wts;rw[cJ];simp
theorem lc (a b:Int) (x:U):∀(l:List U) (n m:Int),U.stamps a b (l++[x]) n m=((U.stamps a b l n m).1++[(U.stamp a b x (U.stamps a b l n m).2.1 (U.stamps a b l n m).2.2).1],(U.stamp a b x (U.stamps a b l n m).2.1 (U.stamps a b l n m).2.2).2)
 |[],n,m=>by rw[nil_append,U.stamps_cons,U.stamps_nil,U.stamps_nil];rfl
 |u::l,n,m=>by rw[cons_append,U.stamps_cons,lc a b x l,U.stamps_cons];rfl
theorem o0 (a b:Int):∀(u:U) (n m:Int),(U.stamp a b u n m).2.2=m+u.wt:=by
 refine U.ind λu ih n m=>?_
 have h:∀(us:List U),(∀k∈us,∀n m,(U.stamp a b k n m).2.2=m+k.wt)->∀n m,(U.stamps a b us n m).2.2=m+U.wts us:=by
  intro us
  induction us with
  |nil=>intro _ n m;rw[U.stamps_nil,U.wts_nil];simp
  |cons x us ihu=>
   intro h n m
   rw[U.stamps_cons]
   simp only
   rw[ihu (λk D=>h k (by simp[D])),h x (by simp),U.wts_cons]
   omega
 rw[U.stamp_eq]
 simp only
 rw[h u.kids ih,U.wt_eq]
 omega
theorem jo (a b:Int) (us:List U) (n m:Int):(U.stamps a b us n m).2.1=n+(U.flats us).length/\(U.stamps a b us n m).2.2=m+U.wts us/\(U.stamps a b us n m).1.length=us.length:=by
 refine⟨(gL a b (λk _ n m=>kh a b k n m) n m).next,?_,?_⟩
 ·induction us generalizing n m with
  |nil=>rw[U.stamps_nil,U.wts_nil];simp
  |cons x us ih=>
   rw[U.stamps_cons]
   simp only
   rw[ih,o0,U.wts_cons]
   omega
 ·have:=congrArg List.length (gL a b (us:=us) (λk _ n m=>kh a b k n m) n m).key
  simpa using this
theorem app_kept2 {e:TypeId} {sz bytes m:Nat} {g:Option Nat} {rows ys:List (List AV)} {K:AV->Store->Prop} {E F:Nat} {X y2:AObj} (κ:Store) (J:E∉Store.keys (κ++tokS g e m)) (M:F∉Store.keys ((E,X)::(κ++tokS g e m))) (V:∀b,g=some b->b∉κ.keys) (hm:m=rows.length*sz) (N:κ.keys.Nodup) (hb:(rows.length+ys.length)*bytes<=140737488355328)
  (hk:∀I,(∀b,I=some b->b∉κ.keys)->K (.own I e sz (rows++ys)) (κ++tokS I e ((rows++ys).length*sz))):appX e sz bytes ((F,y2)::(E,X)::(κ++tokS g e m)) g rows ys K:=by
 subst hm
 refine fM κ (λb h=>?_) hb ⟨λq O=>?_,λ_=>N⟩ hk
 ·have T:=tokF (e:=e) (m:=rows.length*sz) V b h
  have D:b∈Store.keys (κ++tokS g e (rows.length*sz)):=mem_map.2 ⟨_,Store.get_mem T,rfl⟩
  have Y:E≠b:=λe=>J (by rw[e];exact D)
  have Z:F≠b:=λe=>M (by rw[e];exact mem_cons_of_mem _ D)
  simp only[Store.get,if_neg Y,if_neg Z]
  exact T
 ·cases g with
  |none=>exact mem_cons_of_mem _ (mem_cons_of_mem _ (mem_append.2 (.inl O)))
  |some b=>
   refine mem_filter.2 ⟨mem_cons_of_mem _ (mem_cons_of_mem _ (mem_append.2 (.inl O))),?_⟩
   have:q.1≠b:=λh=>V b rfl (by rw[←h];exact mem_map.2 ⟨q,O,rfl⟩)
   simpa using this
section
variable (G:Glob)
end
def msr (l:List U):Nat:=(l.map λx=>x.flat.length).sum
theorem mi:msr []=0:=rfl
theorem cM (x:U) (l:List U):msr (x::l)=x.flat.length+msr l:=by simp[msr]
theorem jJ (a b:List U):msr (a++b)=msr a+msr b:=by simp[msr]
theorem gg:∀l:List U,l.length<=msr l
 |[]=>Nat.le_refl _
 |x::l=>by have:=gg l;have:=x.flat_pos;rw[cM,length_cons];omega
theorem jm:∀us:List U,msr us=(U.flats us).length
 |[]=>by rw[pp];rfl
 |u::us=>by rw[cM,jm us,pk,length_append]
theorem il (p:U->Bool):∀l:List U,msr (l.filter p)<=msr l
 |[]=>Nat.le_refl _
 |x::l=>by
  have:=il p l
  rw[filter_cons]
  split
  ·rw[cM,cM];omega
  ·rw[cM];omega
theorem iG (s:Stp):∀l:List U,msr (aK l s)<=msr l
 |[]=>Nat.le_refl _
 |x::l=>by
  have D:=iG s l
  have E:=il (λk=>aL k s) x.kids
  have F:msr x.kids=x.flat.length-1:=by rw[jm,U.flat_eq];simp
  have e:aK (x::l) s=x.kids.filter (λk=>aL k s)++aK l s:=by simp[aK]
  rw[e,jJ,cM];omega
theorem mw {u x:U} (D:x∈u.flat):x.flat.length<=u.flat.length:=by
 revert D
 refine U.ind (p:=λu=>x∈u.flat->x.flat.length<=u.flat.length) (λu ih D=>?_) u
 rw[U.flat_eq]at D
 rcases mem_cons.1 D with rfl|D
 ·exact Nat.le_refl _
 ·obtain⟨y,E,D⟩:=bN D
  have F:=ih y E D
  have I:=U.flats_mem E
  rw[U.flat_eq u,length_cons];omega
theorem msr_le {N:Nat}:∀{l:List U},(∀x∈l,x.flat.length<=N)->msr l<=l.length*N
 |[],_=>Nat.zero_le _
 |x::l,h=>by
  have E:=msr_le (l:=l) λy D=>h y (by simp[D])
  have F:=h x (by simp)
  rw[cM,length_cons,Nat.add_mul];omega
theorem msr_flat (u:U):msr u.flat<=u.flat.length*u.flat.length:=msr_le λx D=>mw D
def dV (u:U) (s:Stp):List U:=if mF s then [u]else u.flat.filter λx=>aL x s
theorem j6 (u:U) (s:Stp):msr (dV u s)<=u.flat.length*u.flat.length:=by
 unfold dV
 split
 ·have:=u.flat_pos
  rw[cM,mi]
  exact Nat.le_mul_of_pos_right _ this
 ·exact Nat.le_trans (il _ _) (msr_flat u)
theorem lF:∀(r:List Stp) (l:List U),msr (r.foldl aK l)<=msr l
 |[],l=>Nat.le_refl _
 |s::r,l=>Nat.le_trans (lF r (aK l s)) (iG s l)
theorem lI (u:U) (p:List Stp):(fY u p).length<=u.flat.length*u.flat.length:=by
 refine Nat.le_trans (gg _) ?_
 unfold fY
 split
 ·exact Nat.zero_le _
 ·split
  ·have:=u.flat_pos
   rw[cM,mi]
   exact Nat.le_mul_of_pos_right _ this
  ·exact Nat.le_trans (lF _ _) (j6 u _)
theorem ll (l:List U) (x:U) (s:Stp):aK (l++[x]) s=aK l s++x.kids.filter λk=>aL k s:=by simp[aK]
def zPre (l:List U) (y:Stp) (ks:List U) (j k:Nat):List U:=aK (l.take j) y++(ks.take k).filter λx=>aL x y
theorem zPre_zero (l:List U) (y:Stp) (ks:List U) (j:Nat):zPre l y ks j 0=aK (l.take j) y:=by simp[zPre]
theorem zPre_full (l:List U) (y:Stp) (ks:List U) (j:Nat):zPre l y ks j ks.length=aK (l.take j) y++ks.filter λx=>aL x y:=by simp[zPre]
theorem zPre_len (l:List U) (y:Stp) (ks:List U) (j k:Nat):(zPre l y ks j k).length=(aK (l.take j) y).length+((ks.take k).filter λx=>aL x y).length:=by simp[zPre]
theorem zPre_yes {l:List U} {y:Stp} {ks:List U} {j k:Nat} {q:U} {r:List U} (E:Rest ks k q r) (D:aL q y=true):zPre l y ks j (k+1)=zPre l y ks j k++[q]:=by
 unfold zPre
 rw[E.take,filter_append,append_assoc]
 simp[D]
theorem zPre_not {l:List U} {y:Stp} {ks:List U} {j k:Nat} {q:U} {r:List U} (E:Rest ks k q r) (D:aL q y=false):zPre l y ks j (k+1)=zPre l y ks j k:=by
 unfold zPre
 rw[E.take,filter_append]
 simp[D]
section
variable (G:Glob)
end
def lH (u:U) (p:List Stp):AV:=.tup [.agg [.int .i64 (one u p).1.act,.int .i64 (one u p).1.item,.int .i64 (one u p).1.n],.int .i64 (one u p).2]
section
variable (G:Glob)
end
def Dd.cs (d:Dd):List AV:=.int .i64 d.act:: .int .i64 d.item:: .int .i64 d.day::d.it.cs
def aO (q:U×Int):AV:=.tup [.agg q.1.cs,.int .i64 q.2]
structure Unit0 (d:Dd):Prop where
 nodes:∀y∈d.it.unit.flat,nodeOk y=true
 cnt:d.it.unit.flat.length<=1024
theorem wt_le {u:U} (h:∀y∈u.flat,nodeOk y=true):u.wt<=u.flat.length*512:=by
 unfold U.wt
 have:∀l:List U,(∀y∈l,nodeOk y=true)->(l.map λy=>y.head.length+y.words.length).sum<=l.length*512:=by
  intro l
  induction l with
  |nil=>intro _;simp
  |cons x l ih=>
   intro h
   have F:=ih λy E=>h y (by simp[E])
   have D:=dN (h x (by simp))
   have I:=D.head.1
   have J:=D.words.1
   rw[map_cons,sum_cons,length_cons]
   omega
 exact this u.flat h
section
variable (G:Glob)
end
abbrev K5:=Idd×Int×List UInt8×List Wd×List Wd
def U.k5 (y:U):K5:=(y.id,y.kind,y.label,y.head,y.words)
def U.all5 (u:U):List K5:=u.flat.map U.k5
def U.alls5 (us:List U):List K5:=(U.flats us).map U.k5
theorem U.all5_eq (u:U):u.all5=u.k5::U.alls5 u.kids:=by unfold U.all5 U.alls5;rw[U.flat_eq];rfl
theorem U.alls5_nil:U.alls5 []=[]:=by unfold U.alls5;rw[pp];rfl
theorem U.alls5_cons (u:U) (us:List U):U.alls5 (u::us)=u.all5++U.alls5 us:=by unfold U.alls5 U.all5;rw[pk,map_append]
theorem U.alls5_app (a b:List U):U.alls5 (a++b)=U.alls5 a++U.alls5 b:=by unfold U.alls5;rw[cJ,map_append]
theorem ma {i:Idd} {f:U->U} (u:U) (D:u.ids.Nodup) (hi:i∈u.ids):∃l r,u.all5=l++((fnd i u).all5++r)/\(U.wth i f u).all5=l++((f (fnd i u)).all5++r):=by
 refine U.wayInd (i:=i) (p:=λu=>∃l r,u.all5=l++((fnd i u).all5++r)/\(U.wth i f u).all5=l++((f (fnd i u)).all5++r)) ?_ ?_ u D hi
 ·intro u _ h
  have e:fnd i u=u:=aB (by rw[aN h];rfl)
  refine⟨[],[],?_,?_⟩
  ·rw[e];simp
  ·rw[bA h,e];simp
 ·intro u a k b D h s ⟨l,r,e1,e2⟩
  rw[s.fnd D s.mem]
  refine⟨u.k5::(U.alls5 a++l),r++U.alls5 b,?_,?_⟩
  ·rw[U.all5_eq,s.eq,U.alls5_app,U.alls5_cons,e1];simp[append_assoc]
  ·rw[s.wth h,U.all5_eq,show({u with kids:=a++U.wth i f k::b}:U).k5=u.k5 from rfl]
   simp only
   rw[U.alls5_app,U.alls5_cons,e2];simp[append_assoc]
theorem k5_ins {u:U} (F:u.ids.Nodup) {q:Idd} (I:q∈u.ids) (k:Nat) (x:U):∃A B,u.all5=A++B/\(U.wth q (λy=>{y with kids:=insAt y.kids k x}) u).all5=A++(x.all5++B):=by
 obtain⟨l,r,D,E⟩:=ma (f:=λy=>{y with kids:=insAt y.kids k x}) u F I
 refine⟨l++((fnd q u).k5::U.alls5 ((fnd q u).kids.take k)),U.alls5 ((fnd q u).kids.drop k)++r,?_,?_⟩
 ·rw[D,U.all5_eq]
  conv=>lhs;rw[←take_append_drop k (fnd q u).kids]
  rw[U.alls5_app];simp[append_assoc]
 ·rw[E,U.all5_eq,show({fnd q u with kids:=insAt (fnd q u).kids k x}:U).k5=(fnd q u).k5 from rfl]
  unfold insAt
  simp only
  rw[U.alls5_app,U.alls5_cons];simp[append_assoc]
theorem k5_del {u:U} (M:u.ids.Nodup) {i:Idd} (hi:i∈u.ids) (F:u.id≠i):∃A B,u.all5=A++((fnd i u).all5++B)/\(without i u).all5=A++B:=by
 obtain⟨own,d,j,V,w2,I⟩:=bt M hi F
 obtain⟨a,x,b,s,X,O,T⟩:=I.split
 have E:fnd i u=x:=aB T
 subst O
 have N:without i u=U.wth own.id (λy=>{y with kids:=delAt y.kids a.length}) u:=by unfold without;rw[V]
 rw[N,E]
 obtain⟨l,r,J,D⟩:=ma (f:=λy=>{y with kids:=delAt y.kids a.length}) u M I.mem
 rw[I.fnd]at J D
 rw[s.eq,bO]at D
 refine⟨l++(own.k5::U.alls5 a),U.alls5 b++r,?_,?_⟩
 ·rw[J,U.all5_eq,s.eq,U.alls5_app,U.alls5_cons];simp[append_assoc]
 ·rw[D,U.all5_eq,show({own with kids:=a++b}:U).k5=own.k5 from rfl]
  simp only
  rw[U.alls5_app];simp[append_assoc]
theorem kU {u:U} (I:u.ids.Nodup) {i:Idd} (hi:i∈u.ids) {f:U->U} (F:∀y,(f y).kids=y.kids):∃A B,u.all5=A++((fnd i u).k5::B)/\(U.wth i f u).all5=A++((f (fnd i u)).k5::B):=by
 obtain⟨l,r,D,E⟩:=ma (f:=f) u I hi
 refine⟨l,U.alls5 (fnd i u).kids++r,?_,?_⟩
 ·rw[D,U.all5_eq];simp
 ·rw[E,U.all5_eq,F];simp
/-! ### an item that fails changes nothing -/
theorem insP_err {u:U} {i:Idd} {d:Dd} (h:(insP u i d).2≠0):(insP u i d).1=u:=by
 unfold insP at h ⊢
 (repeat' split)<;>(try rfl)
 all_goals(exfalso;simp_all)
theorem movP_err {u:U} {i t:Idd} {d:Dd} (h:(movP u i t d).2≠0):(movP u i t d).1=u:=by
 unfold movP at h ⊢
 (repeat' split)<;>(try rfl)
 all_goals(exfalso;simp_all)
theorem doP_err {u:U} {d:Dd} (h:(doP u d).2≠0):(doP u d).1=u:=by
 unfold doP at h ⊢
 split
 ·rfl
 rename_i c1
 rw[if_neg c1]at h
 split
 ·rfl
 rename_i c2
 rw[if_neg c2]at h
 split
 ·rename_i c3
  rw[if_pos c3]at h
  exact insP_err h
 rename_i c3
 rw[if_neg c3]at h
 split
 ·split<;>rfl
 rename_i c4
 rw[if_neg c4]at h
 split
 ·rename_i c5
  rw[if_pos c5]at h;exact absurd rfl h
 rename_i c5
 rw[if_neg c5]at h
 split
 ·rename_i c6
  rw[if_pos c6]at h
  split
  ·rfl
  ·rename_i c7;rw[if_neg c7]at h;exact absurd rfl h
 rename_i c6
 rw[if_neg c6]at h
 split
 ·rename_i c7
  rw[if_pos c7]at h;exact absurd rfl h
 rename_i c7
 rw[if_neg c7]at h
 split
 ·rename_i c8
  rw[if_pos c8]at h
  split
  ·rfl
  ·rename_i c9;rw[if_neg c9]at h;exact absurd rfl h
 rename_i c8
 rw[if_neg c8]at h
 split
 ·rfl
 rename_i c9
 rw[if_neg c9]at h
 exact movP_err h
structure Ms where
 act:Int
 item:Int
 why:Int
 deriving DecidableEq,Inhabited
def Ms.cs (m:Ms):List AV:=[.int .i64 m.act,.int .i64 m.item,.int .i64 m.why]
def rG (d:Dd) (e:Int):List Ms:=if e=0 then []else [⟨d.act,d.item,e⟩]
def fP (u:U) (d:Dd):U×List Ms:=if chg d.it.kind=false then (u,[])else ((doP u d).1,rG d (doP u d).2)
def allP:U->List Dd->U×List Ms
 |u,[]=>(u,[])
 |u,d::l=>((allP (fP u d).1 l).1,(fP u d).2++(allP (fP u d).1 l).2)
theorem rA (u:U) (d:Dd) (l:List Dd):allP u (d::l)=((allP (fP u d).1 l).1,(fP u d).2++(allP (fP u d).1 l).2):=rfl
theorem ly {u:U} (h:Good u) (d:Dd):Good (fP u d).1/\Root u (fP u d).1:=by
 unfold fP
 split
 ·exact⟨h,Root.refl u⟩
 ·exact rd h d
theorem m6:∀{l:List Dd} {u:U},Good u->Good (allP u l).1/\Root u (allP u l).1
 |[],u,h=>⟨h,Root.refl u⟩
 |d::l,u,h=>by
  obtain⟨D,E⟩:=ly h d
  obtain⟨F,I⟩:=m6 (l:=l) D
  exact⟨F,E.trans I⟩
/-! ### the document's words for the same -/
/-! ### sizes -/
def wt5 (k:K5):Nat:=1+k.2.2.2.2.length / 50+k.2.2.2.1.length / 50+k.2.2.1.length / 50
def wtL (L:List K5):Nat:=(L.map wt5).sum
theorem wtL_nil:wtL []=0:=rfl
theorem fW (k:K5) (L:List K5):wtL (k::L)=wt5 k+wtL L:=by simp[wtL]
theorem bR (A B:List K5):wtL (A++B)=wtL A+wtL B:=by simp[wtL]
theorem stamp_wt (a b:Int):∀(u:U) (n m:Int),wtL (U.stamp a b u n m).1.all5=wtL u.all5:=by
 refine U.ind λu ih n m=>?_
 have h:∀(us:List U),(∀k∈us,∀n m,wtL (U.stamp a b k n m).1.all5=wtL k.all5)->∀n m,wtL (U.alls5 (U.stamps a b us n m).1)=wtL (U.alls5 us):=by
  intro us
  induction us with
  |nil=>intro _ n m;rw[U.stamps_nil]
  |cons x us ihu=>
   intro h n m
   rw[U.stamps_cons]
   simp only
   rw[U.alls5_cons,U.alls5_cons,bR,bR,h x (by simp),ihu (λk D=>h k (by simp[D]))]
 rw[U.stamp_eq,U.all5_eq,U.all5_eq u,fW,fW]
 simp only
 rw[h u.kids ih]
 congr 1
 simp[wt5,U.k5,cH]
theorem all5_node {v:U} {k:K5} (D:k∈v.all5):∃y∈v.flat,y.k5=k:=mem_map.1 D
theorem wt5_node {v:U} (h:Good v) {k:K5} (D:k∈v.all5):wt5 k<=11:=by
 obtain⟨y,E,rfl⟩:=all5_node D
 have s:=dN (h.node y E)
 have F:=s.label
 have I:=s.head.1
 have J:=s.words.1
 simp only[wt5,U.k5]
 omega
theorem o7 {u:U} (h:Good u):pq u=true:=by
 unfold pq
 simp only[Bool.and_eq_true,decide_eq_true_eq]
 refine⟨all_eq_true.2 h.node,by have:=h.dep;unfold U.dep;omega,by have:=h.cnt;unfold U.cnt;omega,?_⟩
 unfold pH
 rw[Bool.or_eq_true,Bool.and_eq_true,decide_eq_true_eq,decide_eq_true_eq]
 refine .inr ⟨?_,h.nd⟩
 rw[decide_eq_decide]
 exact h.root.symm
/-! ### from nothing -/
def eQ:U:=⟨zId,0,[],[],[],[]⟩
theorem lf:Good eQ:=by
 have D:eQ.flat=[eQ]:=by rw[U.flat_eq];show eQ::U.flats []=_;rw[pp]
 refine⟨?_,?_,?_,?_,⟨λ_=>rfl,λ_=>rfl⟩,λh=>absurd rfl h⟩
 ·unfold U.ids;rw[D];simp
 ·rw[D]
  intro y E
  simp only[mem_singleton]at E
  subst E
  decide
 ·rw[U.deep_eq];show U.deeps []<=8;rw[U.deeps];omega
 ·rw[D];simp
theorem wt5_k (u:U):wt5 u.k5=1+u.words.length / 50+u.head.length / 50+u.label.length / 50:=rfl
theorem wtL_all (u:U):wtL u.all5=wt5 u.k5+wtL (U.alls5 u.kids):=by rw[U.all5_eq,fW]
def idsB (u:U):Bool:=decide u.ids.Nodup&&(!decide (zId∈u.ids)||decide (u.kind=0))
mutual
def Itm.big:Itm->Prop
 |⟨_,a,t,_,_,u,o,w,l,f,s,_,_,_,e,b⟩=>(a.length<1000000000000000000/\∀x∈a,x.label.length<1000000000000000000)/\(t.length<1000000000000000000/\∀x∈t,x.label.length<1000000000000000000)/\u.fit/\o.length<1000000000000000000/\w.length<1000000000000000000/\
  (l.length<1000000000000000000/\f.length<1000000000000000000/\s.event.length<1000000000000000000/\e.length<1000000000000000000)/\b.length<1000000000000000000/\Itm.bigs b
def Itm.bigs:List Itm->Prop
 |[]=>True
 |u::us=>Itm.big u/\Itm.bigs us
end
theorem Itm.bigs_iff:∀{us:List Itm},Itm.bigs us↔∀k∈us,k.big
 |[]=>by simp[Itm.bigs]
 |u::us=>by simp[Itm.bigs,Itm.bigs_iff (us:=us)]
theorem Itm.big_eq (x:Itm):x.big↔(x.at_.length<1000000000000000000/\∀y∈x.at_,y.label.length<1000000000000000000)/\(x.to_.length<1000000000000000000/\∀y∈x.to_,y.label.length<1000000000000000000)/\x.unit.fit/\x.old.length<1000000000000000000/\x.new.length<1000000000000000000/\
  (x.label.length<1000000000000000000/\x.for_.length<1000000000000000000/\x.start.event.length<1000000000000000000/\x.event.length<1000000000000000000)/\x.by_.length<1000000000000000000/\∀k∈x.by_,k.big:=by
 cases x
 rw[Itm.big,Itm.bigs_iff]
theorem rU:∀x:Itm,x.big->x.fit:=by
 refine Itm.ind λx ih h=>?_
 obtain⟨⟨E,_⟩,⟨F,_⟩,c,d,e,_,f,g⟩:=(Itm.big_eq x).1 h
 exact(Itm.fit_eq x).2 ⟨E,F,c,d,e,f,λk D=>ih k D (g k D)⟩
theorem oE:∀(n:Nat) (a:List AV),Shp Tryz.prog reachBytes n 52 a->∃x:Itm,a=x.cs/\x.big:=by
 intro n
 induction n using Nat.strongRecOn with
 |ind n ih=>
  intro a h
  obtain⟨m,rfl,g⟩:=cD Tryz.underlying52 h
  clear h
  simp only[toL,ShpF]at g
  obtain⟨a1,b1,rfl,h1,a2,b2,rfl,h2,a3,b3,rfl,h3,a4,b4,rfl,h4,a5,b5,rfl,h5,a6,b6,rfl,h6,a7,b7,rfl,h7,a8,b8,rfl,h8,a9,b9,rfl,h9,an,bi,rfl,D,aw,bk,rfl,E,ba,bl,rfl,F,bb,bm,rfl,I,bd,bn,rfl,J,be,bo,rfl,M,bh,bp,rfl,N,rfl⟩:=g
  obtain⟨k,rfl⟩:=bL Tryz.underlying3 h1
  obtain⟨l2,rfl,q2,t2⟩:=km h2
  obtain⟨l3,rfl,q3,t3⟩:=km h3
  obtain⟨i4,rfl⟩:=bL Tryz.underlying3 h4
  obtain⟨i5,rfl⟩:=bL Tryz.underlying3 h5
  obtain⟨u6,rfl,q6⟩:=ls _ _ h6
  obtain⟨l7,rfl,q7,_⟩:=lS h7
  obtain⟨l8,rfl,q8,_⟩:=lS h8
  obtain⟨s9,z9,rfl⟩:=eN Tryz.underlying9 h9
  obtain⟨s10,ac,rfl⟩:=eN Tryz.underlying9 D
  obtain⟨s11,rfl,ah⟩:=oT E
  obtain⟨O,rfl⟩:=bL Tryz.underlying3 F
  obtain⟨T,rfl⟩:=bL Tryz.underlying3 I
  obtain⟨V,rfl⟩:=bL Tryz.underlying3 J
  obtain⟨s15,al,rfl⟩:=eN Tryz.underlying9 M
  obtain⟨X,rfl,Z,Y⟩:=fg (f:=Itm.cs) (q:=Itm.big) (sz:=25) Tryz.underlying50 (by kernel_rfl) (λm' hm r hr=>ih m' (by omega) r hr) N
  refine⟨⟨k,l2,l3,i4,i5,u6,l7,l8,s9,s10,s11,O,T,V,s15,X⟩,?_,(Itm.big_eq _).2 ⟨⟨q2,t2⟩,⟨q3,t3⟩,q6,q7,q8,⟨dF z9,dF ac,ah,dF al⟩,dF Z,Y⟩⟩
  rw[Itm.cs_eq,U.cs_eq]
  rfl
theorem open_deed {n:Nat} {a:List AV} (h:Shp Tryz.prog reachBytes n 54 a):∃d:Dd,a=d.cs/\d.it.big:=by
 obtain⟨m,rfl,g⟩:=cD Tryz.underlying54 h
 clear h
 simp only[toL,ShpF]at g
 obtain⟨T,Z,rfl,D,V,b2,rfl,E,X,b3,rfl,F,Y,b4,rfl,I,rfl⟩:=g
 obtain⟨M,rfl⟩:=bL Tryz.underlying3 D
 obtain⟨N,rfl⟩:=bL Tryz.underlying3 E
 obtain⟨O,rfl⟩:=bL Tryz.underlying3 F
 obtain⟨x,rfl,J⟩:=oE _ _ I
 exact⟨⟨M,N,O,x⟩,by simp[Dd.cs],J⟩
theorem rq {n:Nat} {a:List AV} (h:Shp Tryz.prog reachBytes n 59 a):∃l:List Dd,a=[.lst 28 (l.map Dd.cs)]/\Big l.length/\∀d∈l,d.it.big:=by
 obtain⟨l,D,E,F⟩:=fg (f:=Dd.cs) (q:=λd=>d.it.big) (sz:=28) Tryz.underlying59 (by kernel_rfl) (λm _ r I=>open_deed I) h
 exact⟨l,D,dF E,F⟩
theorem re {H:Type} {enc:TypeId×Value->H} {P:Program} {w:World} {S:List TypeId} (J:rQ P S=true) {t:TypeId} (V:t∈S) {a:Option Addr} {len cap:Nat} {d:DataW H} {ps:List MemPlace}
  (N:DataW.Trod enc P w 0 (λ_=>true) true t (.slice a len cap) d ps) (X:∀n∈d.weights P t,n<=reachBytes):∃fuel x,Shp P reachBytes fuel t [x]/\Rep [] w x (.slice a len cap):=by
 obtain⟨fuel,T⟩:=N
 obtain⟨Z,D,s,r,o⟩:=j4 J fuel t _ _ V T X
 have M:Value.cells (.slice a len cap)=#[.slice a len cap]:=by simp[Value.cells]
 rw[M]at r
 cases D with
 |nil=>simp[RepL]at r
 |cons x xs=>
  simp only[RepL]at r
  obtain⟨u,us,O,I,F⟩:=r
  injection O with e1 e2
  subst e1 e2
  cases xs with
  |nil=>exact⟨fuel,x,s,I⟩
  |cons y ys=>
   simp only[RepL]at F
   obtain⟨u',Y,E,_⟩:=F
   cases E
end Go.Av
