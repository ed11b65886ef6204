/-
  ENACT, M6: a unit stamped by the reference.
-/
import Derived.Test.YtppjieiiibgagaaGreatDoorWXM2toXM5
set_option linter.all false
namespace Go.Av
open Go Go.RowKit Go.Proofs List
def U.wt (u:U):Nat:=(u.flat.map λy=>y.head.length+y.words.length).sum
def U.wts (us:List U):Nat:=((U.flats us).map λy=>y.head.length+y.words.length).sum
def ue (u:U):u.wt=u.head.length+u.words.length+U.wts u.kids:=by unfold U.wt U.wts;rw[U.flat_eq];simp
def sL:U.wts []=0:=by unfold U.wts;rw[bv];rfl
def sH (u:U) (us:List U):U.wts (u::us)=u.wt+U.wts us:=by unfold U.wt U.wts;rw[aI];simp
def sM (a b:List U):U.wts (a++b)=U.wts a+U.wts b:=by unfold U.wts;rw[cy];simp
def jk (a b:Int) (x:U):∀(l:List U) (n m:Int),U.stamps a b (l++[x]) n m=((U.stamps a b l n m).1++[(U.stamp a b x (U.stamps a b l n m).2.1 (U.stamps a b l n m).2.2).1],(U.stamp a b x (U.stamps a b l n m).2.1 (U.stamps a b l n m).2.2).2)
 |[],n,m=>by rw[nil_append,rQ,rP,rP];rfl
 |u::l,n,m=>by rw[cons_append,rQ,jk a b x l,rQ];rfl
def qp (a b:Int):∀(u:U) (n m:Int),(U.stamp a b u n m).2.2=m+u.wt:=by
 refine U.ind λu ih n m=>?_
 have h:∀(us:List U),(∀k∈us,∀n m,(U.stamp a b k n m).2.2=m+k.wt)->∀n m,(U.stamps a b us n m).2.2=m+U.wts us:=by
  intro us
  induction us with
  |nil=>intro _ n m;rw[rP,sL];simp
  |cons x us ihu=>
   intro h n m;rw[rQ];simp only;rw[ihu (λk D=>h k (by simp[D])),h x (by simp),sH];omega
 rw[sq];simp only;rw[h u.kids ih,ue];omega
def gK (a b:Int) (us:List U) (n m:Int):(U.stamps a b us n m).2.1=n+(U.flats us).length/\(U.stamps a b us n m).2.2=m+U.wts us/\(U.stamps a b us n m).1.length=us.length:=by
 refine⟨(iH a b (λk _ n m=>lu a b k n m) n m).next,?_,?_⟩
 ·induction us generalizing n m with
  |nil=>rw[rP,sL];simp
  |cons x us ih=>
   rw[rQ];simp only;rw[ih,qp,sH];omega
 ·have:=congrArg List.length (iH a b (us:=us) (λk _ n m=>lu a b k n m) n m).key;simpa using this
def nf {e:TypeId} {sz bytes m:Nat} {g:Option Nat} {rows ys:List (List AV)} {K:AV->Store->Prop} {E F:Nat} {X y2:AObj} (κ:Store) (J:E∉Store.keys (κ++tokS g e m)) (M:F∉Store.keys ((E,X)::(κ++tokS g e m))) (V:∀b,g=some b->b∉κ.keys) (hm:m=rows.length*sz) (N:κ.keys.Nodup) (hb:(rows.length+ys.length)*bytes<=140737488355328)
  (hk:∀I,(∀b,I=some b->b∉κ.keys)->K (.own I e sz (rows++ys)) (κ++tokS I e ((rows++ys).length*sz))):appX e sz bytes ((F,y2)::(E,X)::(κ++tokS g e m)) g rows ys K:=by
 subst hm
 refine fb κ (λb h=>?_) hb ⟨λq O=>?_,λ_=>N⟩ hk
 ·have T:=tokF (e:=e) (m:=rows.length*sz) V b h
  have D:b∈Store.keys (κ++tokS g e (rows.length*sz)):=mem_map.2 ⟨_,rb T,rfl⟩;have Y:E≠b:=λe=>J (by rw[e];exact D);have Z:F≠b:=λe=>M (by rw[e];exact mem_cons_of_mem _ D);simp only[Store.get,if_neg Y,if_neg Z];exact T
 ·cases g with
  |none=>exact mem_cons_of_mem _ (mem_cons_of_mem _ (mem_append.2 (.inl O)))
  |some b=>
   refine mem_filter.2 ⟨mem_cons_of_mem _ (mem_cons_of_mem _ (mem_append.2 (.inl O))),?_⟩;have:q.1≠b:=λh=>V b rfl (by rw[←h];exact mem_map.2 ⟨q,O,rfl⟩);simpa using this
section
variable (G:Glob)
def jr (a b:Int) (u:U) (n m:Int):AV:=.tup [.agg (U.stamp a b u n m).1.cs,.i (U.stamp a b u n m).2.1,.i (U.stamp a b u n m).2.2]
set_option maxHeartbeats 1000000 in
def f262 (a b:Int):∀(u:U),u.Short->∀n m:Int,0<=n->0<=m->n+u.flat.length<=100000000000->m+u.wt<=100000000000->Pure G Tryz.prog 262 [.agg u.cs,.i a,.i b,.i n,.i m] (jr a b u n m):=by
 refine U.ind λu ih hs n m d1 bk bs bn=>?_;have d0:=hs.1.kids;have hu:=hs.2 u u.flat_self;rw[U.flat_eq,length_cons]at bs;rw[ue]at bn;have bd:=f328 G u.head hu.2.1;have be:=f328 G u.words hu.2.2.1;have ah:=f87 G (u.head.map Wd.text) a b m (by rw[length_map];exact hu.2.1) bk (by omega);have al:=f87 G (u.words.map Wd.text) a b (m+u.head.length) (by rw[length_map];exact hu.2.2.1) (by omega) (by omega)
 have aa:(aR a b (u.head.map Wd.text) m).length=u.head.length:=by rw[bz,length_map]
 have ac:(aR a b (u.words.map Wd.text) (m+u.head.length)).length=u.words.length:=by rw[bz,length_map]
 have w1:IntKind.i64.wrap (n+1)=n+1:=av (by omega) (by omega);have w2:IntKind.i64.wrap (m+(u.head.length:Int))=m+u.head.length:=av (by omega) (by omega);have w3:IntKind.i64.wrap (m+(u.head.length:Int)+(u.words.length:Int))=m+u.head.length+u.words.length:=av (by omega) (by omega);refine sw (R:=λr _=>LeRep r (jr a b u n m)) (aj.w c262 ?_) (λr σ' h=>h);unfold s262 r262;unfold jr;rw[sq,b0 u];(repeat' (first|(with_reducible first|refine ab bd ?_|refine ab be ?_|refine ab ah ?_|refine ab al ?_)|simp only[EV,seval,w1,w2,w3,aa,ac,D]|simp only[EV,seval,w1,w2,w3,aa,ac]|(with_reducible intro V E;(try(have F:=E;simp only[EVK]at F;first|(have D:=AI F D)|(have D:=F))))|(refine⟨[],rfl,(by simp),rfl,?_⟩)|fail));rename_i b5 _ _ _ M _ _ _;obtain⟨T,bo⟩:∃T,n+1=T:=⟨_,rfl⟩;obtain⟨O,bm⟩:∃O,m+(u.head.length:Int)+(u.words.length:Int)=O:=⟨_,rfl⟩;obtain⟨S,hS⟩:∃S:Nat->List U×Int×Int,S=λi=>U.stamps a b (u.kids.take i) T O:=⟨_,rfl⟩
 have an:S 0=([],T,O):=by rw[hS];simp only[take_zero,rP]
 have X:∀i,(S i).2.1=T+(U.flats (u.kids.take i)).length/\(S i).2.2=O+U.wts (u.kids.take i)/\(S i).1.length=(u.kids.take i).length:=λi=>by rw[hS];exact gK a b _ T O
 obtain⟨row,J⟩:∃row,row=[AV.int .i64 a,.i b,.i n,.i u.kind,.str u.label,.lst 4 ((aR a b (u.head.map Wd.text) m).map Wd.cs),.lst 4 ((aR a b (u.words.map Wd.text) (m+u.head.length)).map Wd.cs),.lst 8 (u.kids.map U.cs)]:=⟨_,rfl⟩
 have bw:Store.keys [(M,AObj.cells 27 zU),(b5,.cells 27 row)]|>.Nodup:=by simp[Store.keys,D]
 rw[bo,bm];refine ap (ι:=Option Nat) u.kids (λi r c=>∀b',c=some b'->b'∉Store.keys [(M,AObj.cells 27 zU),(b5,.cells 27 row)]) (λi c=>[(1,.i a),(2,.i b),(3,.i (S i).2.1),(4,.i (S i).2.2),(5,.p b5),(10,.p M),(13,.own c 27 8 ((S i).1.map U.cs)),(14,.i i)])
  (λi c=>[(M,AObj.cells 27 zU),(b5,.cells 27 row)]++tokS c 27 (i*8)) (some V) (by rintro b h;injection h with h;subst h;simp[Store.keys,D]) (Weak.of (by rw[an];simp[cZ,Env.get,AVle,aT]) (by rw[J];exact nm (perm_append_comm (l₁:=[_,_]) (l₂:=[_])))) (by omega) (λi k r c ad I hw=>?_) (λc ad hn=>?_)
 ·obtain⟨s1,s2,s3⟩:=X i;obtain⟨t1,t2,t3⟩:=X (i+1)
  have cp:(U.flats (u.kids.take (i+1))).length<=(U.flats u.kids).length:=by
   conv=>rhs;rw[←take_append_drop (i+1) u.kids,cy,length_append]
   omega
  have d2:U.wts (u.kids.take (i+1))<=U.wts u.kids:=by
   conv=>rhs;rw[←take_append_drop (i+1) u.kids,sM]
   omega
  have bx:(U.flats (u.kids.take (i+1))).length=(U.flats (u.kids.take i)).length+k.flat.length:=by rw[I.take,cy,aI,bv];simp
  have ch:U.wts (u.kids.take (i+1))=U.wts (u.kids.take i)+k.wt:=by rw[I.take,sM,sH,sL];simp
  have Z:=ih k I.mem (hs.kid I.mem) (S i).2.1 (S i).2.2 (by omega) (by omega) (by omega) (by omega);unfold jr at Z
  have bb:S (i+1)=((S i).1++[(U.stamp a b k (S i).2.1 (S i).2.2).1],(U.stamp a b k (S i).2.1 (S i).2.2).2):=by
   simp only[hS];rw[I.take,jk]
  subst J;(repeat' (first|(with_reducible refine ab Z ?_)|simp only[EV,seval,I.yes,I.le0,I.lt',I.row,hw,I.get,D]|(with_reducible intro V E;(try(have F:=E;simp only[EVK]at F;(have D:=AI F D))))|fail));rename_i cm Y _ _;have cw:=I.lt
  have N:(u.kids.take i).length=i:=by rw[length_take];omega
  refine⟨[(U.stamp a b k (S i).2.1 (S i).2.2).1.cs],rfl,by simp[hJ],by simp,?_⟩;refine nf (m:=i*8) _ Y E ad (by rw[length_map,s3,N]) bw (by rw[length_map,s3,N];simp;omega) (λgn bh=>?_);refine ak I gn bh ?_;rw[bb]
  have e:((S i).1.map U.cs++[(U.stamp a b k (S i).2.1 (S i).2.2).1.cs]).length*8=(i+1)*8:=by rw[length_append,length_map,s3,N];rfl
  rw[e];simp only[map_append,map_cons,map_nil];exact a0 _ _
 ·subst J
  have aw:S u.kids.length=U.stamps a b u.kids T O:=by simp only[hS];rw[take_length]
  (repeat' (simp only[EV,seval,hn,D]));rw[aw];exact RET.any (LeRep.tup (.cons (LeRep.of (.inr (by rw[b0];simp[aY,aT]))) (.cons (.refl _) (.cons (.refl _) .nil))))
end
def msr (l:List U):Nat:=(l.map λx=>x.flat.length).sum
def kI:msr []=0:=rfl
def cQ (x:U) (l:List U):msr (x::l)=x.flat.length+msr l:=by simp[msr]
def gb (a b:List U):msr (a++b)=msr a+msr b:=by simp[msr]
def ei:∀l:List U,l.length<=msr l
 |[]=>Nat.le_refl _
 |x::l=>by have:=ei l;have:=x.flat_pos;rw[cQ,length_cons];omega
def ir:∀us:List U,msr us=(U.flats us).length
 |[]=>by rw[bv];rfl
 |u::us=>by rw[cQ,ir us,aI,length_append]
def iS (p:U->Bool):∀l:List U,msr (l.filter p)<=msr l
 |[]=>Nat.le_refl _
 |x::l=>by
  have:=iS p l;rw[filter_cons];split
  ·rw[cQ,cQ];omega
  ·rw[cQ];omega
def fX (s:Stp):∀l:List U,msr (aF l s)<=msr l
 |[]=>Nat.le_refl _
 |x::l=>by
  have D:=fX s l;have E:=iS (λk=>ay k s) x.kids
  have F:msr x.kids=x.flat.length-1:=by rw[ir,U.flat_eq];simp
  have e:aF (x::l) s=x.kids.filter (λk=>ay k s)++aF l s:=by simp[aF]
  rw[e,gb,cQ];omega
def nO {u x:U} (D:x∈u.flat):x.flat.length<=u.flat.length:=by
 revert D;refine U.ind (p:=λu=>x∈u.flat->x.flat.length<=u.flat.length) (λu ih D=>?_) u;rw[U.flat_eq]at D
 rcases mem_cons.1 D with rfl|D
 ·exact Nat.le_refl _
 ·obtain⟨y,E,D⟩:=bV D;have F:=ih y E D;have I:=sj E;rw[U.flat_eq u,length_cons];omega
def msr_le {N:Nat}:∀{l:List U},(∀x∈l,x.flat.length<=N)->msr l<=l.length*N
 |[],_=>Nat.zero_le _
 |x::l,h=>by
  have E:=msr_le (l:=l) λy D=>h y (by simp[D]);have F:=h x (by simp);rw[cQ,length_cons,Nat.add_mul];omega
def msr_flat (u:U):msr u.flat<=u.flat.length*u.flat.length:=msr_le λx D=>nO D
def cC (u:U) (s:Stp):List U:=if kB s then [u]else u.flat.filter λx=>ay x s
def iX (u:U) (s:Stp):msr (cC u s)<=u.flat.length*u.flat.length:=by
 unfold cC;split
 ·have:=u.flat_pos;rw[cQ,kI];exact Nat.le_mul_of_pos_right _ this
 ·exact Nat.le_trans (iS _ _) (msr_flat u)
def nx:∀(r:List Stp) (l:List U),msr (r.foldl aF l)<=msr l
 |[],l=>Nat.le_refl _
 |s::r,l=>Nat.le_trans (nx r (aF l s)) (fX s l)
def jZ (u:U) (p:List Stp):(ek u p).length<=u.flat.length*u.flat.length:=by
 refine Nat.le_trans (ei _) ?_;unfold ek;split
 ·exact Nat.zero_le _
 ·split
  ·have:=u.flat_pos;rw[cQ,kI];exact Nat.le_mul_of_pos_right _ this
  ·exact Nat.le_trans (nx _ _) (iX u _)
def iJ (l:List U) (x:U) (s:Stp):aF (l++[x]) s=aF l s++x.kids.filter λk=>ay k s:=by simp[aF]
def zPre (l:List U) (y:Stp) (ks:List U) (j k:Nat):List U:=aF (l.take j) y++(ks.take k).filter λx=>ay x y
def mK (l:List U) (y:Stp) (ks:List U) (j:Nat):zPre l y ks j 0=aF (l.take j) y:=by simp[zPre]
def m8 (l:List U) (y:Stp) (ks:List U) (j:Nat):zPre l y ks j ks.length=aF (l.take j) y++ks.filter λx=>ay x y:=by simp[zPre]
def pY (l:List U) (y:Stp) (ks:List U) (j k:Nat):(zPre l y ks j k).length=(aF (l.take j) y).length+((ks.take k).filter λx=>ay x y).length:=by simp[zPre]
def pp {l:List U} {y:Stp} {ks:List U} {j k:Nat} {q:U} {r:List U} (E:Rest ks k q r) (D:ay q y=true):zPre l y ks j (k+1)=zPre l y ks j k++[q]:=by
 unfold zPre;rw[E.take,filter_append,append_assoc];simp[D]
def pG {l:List U} {y:Stp} {ks:List U} {j k:Nat} {q:U} {r:List U} (E:Rest ks k q r) (D:ay q y=false):zPre l y ks j (k+1)=zPre l y ks j k:=by
 unfold zPre;rw[E.take,filter_append];simp[D]
section
variable (G:Glob)
def f142 (u:U) (a b:Int) (M:u.Short) (T:u.wt<=90000000000):Pure G Tryz.prog 142 [.agg u.cs,.i a,.i b] (.agg (ba u a b).cs):=by
 have J:=f262 G a b u M 1 0 (by decide) (by decide) (by have:=M.1.2;omega) (by omega);unfold jr at J;have I:(U.stamp a b u 1 0).1=ba u a b:=rfl;rw[I]at J;refine Pure.w c142 λR O=>?_;unfold s142 r142;(repeat' (first|(with_reducible refine ab J ?_)|simp only[EV,seval,D]|simp only[EV,seval]|(with_reducible intro N F;(try(have E:=F;simp only[EVK]at E;first|(have D:=AI E D)|(have D:=E))))|fail));exact RET.eq O rfl
set_option maxHeartbeats 2000000 in
def f150 (u:U) (p:List Stp) (ht:u.Tame) (hN:u.flat.length<=1024) (hp:p.length<1000000) (bn:∀s∈p,s.label.length<1000000000000000000):Pure G Tryz.prog 150 [.agg u.cs,.lst 2 (p.map Stp.cs)] (.lst 8 ((ek u p).map U.cs)):=by
 have hM:=f73 G p hp bn;have hE:=f146 G u ht;refine Pure.w c150 λR X=>?_;unfold s150 r150;unfold ek at X
 cases V:cI p with
 |false=>
  rw[V,if_pos rfl]at X;rw[V]at hM;(repeat' (first|(with_reducible refine ab hM ?_)|simp only[EV,seval]|fail));exact X _ _ (Or.inl (Or.inr rfl))
 |true=>
  rw[V]at hM X;simp only[Bool.true_eq_false,if_false]at X;by_cases h0:p=[]
  ·subst h0;simp only[map_nil]at hM ⊢;(repeat' (first|(with_reducible refine ab hM ?_)|simp only[EV,seval]|(with_reducible intro J F;(try(have E:=F;simp only[EVK]at E;(have D:=E))))|(refine⟨[u.cs],rfl,(by simp[hJ]),(by simp),?_⟩)|fail));exact X _ _ (Or.inl (Or.inr ⟨rfl,rfl⟩))
  ·obtain⟨s,r,ac⟩:∃s r,p=s::r:=by cases p<;>simp_all
   have cp:∀x σ,AVle x (.lst 8 ((r.foldl aF (cC u s)).map U.cs))->RET x σ R:=by
    rw[ac]at X;exact X
   clear X
   have dc:p.length=r.length+1:=by rw[ac];simp
   have T:(p.map Stp.cs).getD 0 []=s.cs:=by rw[ac];rfl
   have e0:decide ((p.length:Int)=0)=false:=decide_eq_false (by omega);have hB:=f136 G s.kind s.label;have bo:u.flat.length*u.flat.length<=1048576:=Nat.mul_le_mul hN hN;have bs:=iX u s;have aw:=ei (cC u s)
   cases hb:kB s
   case' true=>
    have bh:(decide (s.kind=0)&&decide (s.label=[]))=true:=hb;rw[bh]at hB
    have aa:cC u s=[u]:=by unfold cC;rw[hb];rfl
    (repeat' (first|(with_reducible first|refine AI (by omega) ?_|refine ab hM ?_|refine ab hB ?_)|simp only[EV,seval,T,e0,D]|simp only[EV,seval,T,e0]|(with_reducible intro J F;(try(have E:=F;simp only[EVK]at E;first|(have D:=AI E D)|(have D:=E))))|(refine⟨[],rfl,(by simp),rfl,?_⟩)|(refine⟨[u.cs],rfl,(by simp[hJ]),(by simp),?_⟩)|(refine cH (by exact bP (by assumption)) rfl rfl (by simp<;>omega) (λgn=>?_))|fail))
   case' false=>
    have bh:(decide (s.kind=0)&&decide (s.label=[]))=false:=hb;rw[bh]at hB
    have aa:cC u s=u.flat.filter λx=>ay x s:=by unfold cC;rw[hb];rfl
    (repeat' (first|(with_reducible first|refine AI (by omega) ?_|refine ab hM ?_|refine ab hB ?_|refine ab hE ?_)|simp only[EV,seval,T,e0,D]|simp only[EV,seval,T,e0]|(with_reducible intro J F;(try(have E:=F;simp only[EVK]at E;(have D:=E))))|(refine⟨[],rfl,(by simp),rfl,?_⟩)|fail));refine ap (ι:=Option Nat) u.flat (λi r c=>True) (λi c=>[(1,.lst 2 (p.map Stp.cs)),(5,.own c 27 8 (((u.flat.take i).filter λx=>ay x s).map U.cs)),(6,.lst 8 (u.flat.map U.cs)),(7,.i i)]) (λi c=>tokS c 27 (((u.flat.take i).filter λx=>ay x s).length*8)) (some J) trivial (a0 _ _) (by omega) (λi x r c V O hw=>?_) (λc V hn=>?_)
    ·have hA:=f264 G x s;have dl:((u.flat.take i).filter λx=>ay x s).length<=i:=Nat.le_trans (length_filter_le _ _) (by rw[length_take];omega);have d0:=O.lt
     cases Z:ay x s
     case' true=>
      have ef:(u.flat.take (i+1)).filter (λx=>ay x s)=(u.flat.take i).filter (λx=>ay x s)++[x]:=by rw[O.take,filter_append];simp[Z]
     case' false=>
      have ef:(u.flat.take (i+1)).filter (λx=>ay x s)=(u.flat.take i).filter (λx=>ay x s):=by rw[O.take,filter_append];simp[Z]
     all_goals
      rw[Z]at hA
      (repeat' (first|(with_reducible first|refine AI (by omega) ?_|refine ab hA ?_)|simp only[EV,seval,O.yes,O.le0,O.lt',O.row,hw,O.get,T,D]|(with_reducible intro J F;(try(have E:=F;simp only[EVK]at E;(have D:=E))))|(with_reducible first|refine af ?_ ?_|refine ag ?_)|(refine⟨[x.cs],rfl,(by simp[hJ]),(by simp),?_⟩)|(refine cH (by((simp only[length_map]<;>exact bP (by assumption)))) rfl rfl (by simp<;>omega) (λgn=>?_))|fail))
     all_goals first
      |(refine ak O gn trivial ?_
        rw[ef,map_append,length_append]
        simp only[length_map,map_cons,map_nil,length_append,length_cons,length_nil]
        exact a0 _ _)
      |(refine ak O c trivial ?_
        rw[ef]
        exact a0 _ _)
    (repeat' (simp only[EV,seval,hn,D]))
   all_goals
    refine ap (ι:=List U) r (λi rr l=>r.foldl aF (cC u s)=rr.foldl aF l/\msr l<=1048576) (λi l=>[(1,.lst 2 (p.map Stp.cs)),(5,.lst 8 (l.map U.cs)),(8,.i ((i+1:Nat):Int))]) (λ_ _=>[]) (cC u s) ⟨rfl,by omega⟩ (Weak.of (by simp[cZ,Env.get,AVle,aT,aa]) (SubN.nil _)) (by omega) (λi y rr l N O hw=>?_) (λl N hn=>?_)
    ·have d0:=O.lt
     have e1:decide (((i+1:Nat):Int)<(p.length:Int))=true:=decide_eq_true (by omega)
     have w1:IntKind.i64.wrap (((i+1:Nat):Int)+1)=((i+1+1:Nat):Int):=by rw[av (by omega) (by omega)];omega
     have bm:(p.map Stp.cs).getD (i+1) []=y.cs:=by
      have:=O.row Stp.cs [];rw[ac];simpa using this
     have bw:=ei l;(repeat' (first|simp only[EV,seval,e1,w1,bm,D]|(with_reducible intro J F;(try(have E:=F;simp only[EVK]at E;(have D:=AI E D))))|(refine⟨[],rfl,(by simp),rfl,?_⟩)|fail));refine ap (ι:=Option Nat) l (λj rl c=>True) (λj c=>[(1,.lst 2 (p.map Stp.cs)),(5,.lst 8 (l.map U.cs)),(8,.i ((i+1:Nat):Int)),(9,.own c 27 8 ((aF (l.take j) y).map U.cs)),(10,.i j)]) (λj c=>tokS c 27 ((aF (l.take j) y).length*8)) (some J) trivial (a0 _ _) (by omega) (λj z rl c bx I al=>?_) (λc bx d3=>?_)
     ·have ah:aF (l.take (j+1)) y=aF (l.take j) y++z.kids.filter λk=>ay k y:=by rw[I.take,iJ]
      have ad:(aF (l.take (j+1)) y).length<=1048576:=by
       have h1:=ei (aF (l.take (j+1)) y);have h2:=fX y (l.take (j+1))
       have h3:msr l=msr (l.take (j+1))+msr (l.drop (j+1)):=by rw[←gb,take_append_drop]
       omega
      have an:z.kids.length<=1048576:=by
       have h1:=ei z.kids;have h2:=ir z.kids
       have h3:z.flat.length=1+(U.flats z.kids).length:=by rw[U.flat_eq,length_cons];omega
       have h4:msr l=msr (l.take (j+1))+msr (l.drop (j+1)):=by rw[←gb,take_append_drop]
       have h5:msr (l.take (j+1))=msr (l.take j)+z.flat.length:=by rw[I.take,gb,cQ,kI];omega
       omega
      rw[ah,length_append]at ad;(repeat' (simp only[EV,seval,I.yes,I.le0,I.lt',I.row,al,I.get,D]));have Y:=mK l y z.kids j
      have be:zPre l y z.kids j z.kids.length=aF (l.take (j+1)) y:=by rw[ah,m8]
      refine ap (ι:=Option Nat) z.kids (λk rk c=>True) (λk c=>[(1,.lst 2 (p.map Stp.cs)),(5,.lst 8 (l.map U.cs)),(8,.i ((i+1:Nat):Int)),(9,.own c 27 8 ((zPre l y z.kids j k).map U.cs)),(10,.i j),(11,.i k)]) (λk c=>tokS c 27 ((zPre l y z.kids j k).length*8)) c trivial (Weak.of (by simp[cZ,Env.get,AVle,aT,Y]) (by simp only[Y];exact SubN.refl _)) (Nat.lt_of_le_of_lt an (by decide)) (λk q rk c ch M cm=>?_) (λc ch d2=>?_)
      ·have hA:=f264 G q y;have bk:((z.kids.take k).filter λk=>ay k y).length<=k:=Nat.le_trans (length_filter_le _ _) (by rw[length_take];omega);have d1:=M.lt;have bb:(aF (l.take j) y).length<=1048576:=Nat.le_trans (Nat.le_add_right _ _) ad;have bd:((z.kids.take k).filter λk=>ay k y).length<=1048576:=Nat.le_trans bk (Nat.le_trans (Nat.le_of_lt d1) an)
       have dd:(zPre l y z.kids j k).length<=2097152:=by
        rw[pY];exact Nat.add_le_add bb bd
       have cw:ay q y=true\/ay q y=false:=by
        cases ay q y
        ·exact .inr rfl
        ·exact .inl rfl
       rcases cw with Z|Z
       ·have ef:zPre l y z.kids j (k+1)=zPre l y z.kids j k++[q]:=pp M Z;rw[Z]at hA;clear bs aw bo ad an ah bw Y be hN bk bn hp aa bb bd;(repeat' (first|(with_reducible first|refine AI (by omega) ?_|refine ab hA ?_)|simp only[EV,seval,I.yes,I.le0,I.lt',I.row,al,I.get,M.yes,M.le0,M.lt',M.row,cm,M.get,bm,D]|(with_reducible intro J F;(try(have E:=F;simp only[EVK]at E;(have D:=E))))|(with_reducible first|refine af ?_ ?_|refine ag ?_)|(refine⟨[q.cs],rfl,(by simp[hJ]),(by simp),?_⟩)|(refine cH (by((simp only[length_map]<;>exact bP (by assumption)))) rfl rfl (by simp<;>omega) (λgn=>?_))|fail))
        all_goals
         refine ak M gn trivial ?_
         rw[ef,map_append,length_append]
         simp only[length_map,map_cons,map_nil,length_append,length_cons,length_nil]
         exact a0 _ _
       ·have ef:zPre l y z.kids j (k+1)=zPre l y z.kids j k:=pG M Z;rw[Z]at hA;clear bs aw bo ad an ah bw Y be hN bk bn hp aa bb bd;(repeat' (first|(with_reducible first|refine AI (by omega) ?_|refine ab hA ?_)|simp only[EV,seval,I.yes,I.le0,I.lt',I.row,al,I.get,M.yes,M.le0,M.lt',M.row,cm,M.get,bm,D]|(with_reducible first|refine af ?_ ?_|refine ag ?_)|fail))
        all_goals
         refine ak M c trivial ?_
         rw[ef]
         exact a0 _ _
      ·(try simp only[EV,seval,I.yes,I.le0,I.lt',I.row,al,I.get,d2]);refine ak I c trivial ?_;rw[be];exact a0 _ _
     ·(repeat' (simp only[EV,seval,d3,w1,D]));refine ak O (aF l y) ⟨N.1,Nat.le_trans (fX y l) N.2⟩ (Weak.of (by simp[cZ,Env.get,AVle,aT,take_length]) (SubN.nil _))
    ·have e1:decide (((r.length+1:Nat):Int)<(p.length:Int))=false:=decide_eq_false (by omega)
     (repeat' (simp only[EV,seval,e1,D]));exact cp _ _ (Or.inl (Or.inl (by rw[N.1];rfl)))
end
def gQ (u:U) (p:List Stp):AV:=.tup [.agg [.i (one u p).1.act,.i (one u p).1.item,.i (one u p).1.n],.i (one u p).2]
def lK (u:U) (p:List Stp):List Idd:=(ek u p).map U.id
section
variable (G:Glob)
def f89 (u:U) (p:List Stp) (ht:u.Tame) (N:u.flat.length<=1024) (hp:p.length<1000000) (Y:∀s∈p,s.label.length<1000000000000000000):Pure G Tryz.prog 89 [.agg u.cs,.lst 2 (p.map Stp.cs)] (.lst 3 ((lK u p).map Idd.cs)):=by
 have Z:=f150 G u p ht N hp Y;have hl:=jZ u p;have M:u.flat.length*u.flat.length<=1048576:=Nat.mul_le_mul N N;refine Pure.w c89 λR O=>?_;unfold s89 r89;unfold lK at O;have T:(ek u p).length<=1048576:=Nat.le_trans hl M;clear hl M N;obtain⟨l,V⟩:∃l,ek u p=l:=⟨_,rfl⟩;rw[V]at O Z T;(repeat' (first|(with_reducible refine ab Z ?_)|simp only[EV,seval,F]|simp only[EV,seval]|(with_reducible intro J D;(try(have E:=D;simp only[EVK]at E;(have F:=E))))|(refine⟨[],rfl,(by simp),rfl,?_⟩)|fail));refine ap (ι:=Option Nat) l (λi r c=>True) (λi c=>[(5,.own c 23 3 ((l.take i).map λx=>x.id.cs)),(6,.lst 8 (l.map U.cs)),(7,.i i)]) (λi c=>tokS c 23 (i*3)) (some J) trivial (a0 _ _) (by omega) (λi x r c X I hw=>?_) (λc X hn=>?_)
 ·have hi:=I.lt;(repeat' (first|simp only[EV,seval,I.yes,I.le0,I.lt',I.row,hw,I.get,F]|(with_reducible intro J D;(try(have E:=D;simp only[EVK]at E;(have F:=E))))|fail));refine dC (n:=i) (m':=(i+1)*3) bL (by rw[length_map,length_take];omega) rfl rfl rfl (by assumption) (by omega) (λgn=>?_);refine ak I gn trivial ?_;simp only[I.take,map_append,map_cons,map_nil];exact a0 _ _
 ·(repeat' (simp only[EV,seval,hn,F]));exact O _ _ (Or.inl (Or.inr ⟨rfl,by rw[take_length,map_map];rfl⟩))
def f32 (u:U) (p:List Stp) (V:u.Tame) (O:u.flat.length<=1024) (T:p.length<1000000) (N:∀s∈p,s.label.length<1000000000000000000):Pure G Tryz.prog 32 [.agg u.cs,.lst 2 (p.map Stp.cs)] (gQ u p):=by
 have J:=f89 G u p V O T N;refine Pure.w c32 λR I=>?_;unfold s32 r32;unfold gQ one at I;unfold lK at J;generalize ek u p=l at*
 rcases l with _|⟨x,_|⟨y,l⟩⟩
 ·simp only[map_nil]at J I;(repeat' (first|(with_reducible refine ab J ?_)|simp only[EV,seval,F]|simp only[EV,seval]|(with_reducible intro M D;(try(have E:=D;simp only[EVK]at E;(have F:=E))))|fail));exact I _ _ (Or.inl (Or.inl rfl))
 ·simp only[map_cons,map_nil,Idd.cs]at J I;(repeat' (first|(with_reducible refine ab J ?_)|simp only[EV,seval,F]|simp only[EV,seval]|(with_reducible intro M D;(try(have E:=D;simp only[EVK]at E;(have F:=E))))|fail))
  all_goals exact I _ _ (Or.inl (Or.inl rfl))
 ·simp only[map_cons,Idd.cs]at J I;(repeat' (first|(with_reducible (refine ae (λh=>?_) λh=>?_)<;>(try simp only[DZ]at h))|(with_reducible first|refine AI (by omega) ?_|refine ab J ?_)|simp only[EV,seval,F]|simp only[EV,seval]|(with_reducible intro M D;(try(have E:=D;simp only[EVK]at E;(have F:=E))))|(exfalso;omega)|fail))
  all_goals exact I _ _ (Or.inl (Or.inl rfl))
end
end Go.Av
