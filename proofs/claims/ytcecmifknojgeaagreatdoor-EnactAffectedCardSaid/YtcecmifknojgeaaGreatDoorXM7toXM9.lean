/-
  ENACT, M7: stamps; the units that an address means, by the reference.
-/
import Derived.Test.YtcecmifknojgeaaGreatDoorXM3toXM6
namespace Go.Av
open Go Go.RowKit Go.Proofs List
set_option linter.unusedSimpArgs false
set_option linter.unusedVariables false
def msr (l:List U):Nat:=(l.map λx=>x.flat.length).sum
theorem j7:msr []=0:=rfl
theorem cR (x:U) (l:List U):msr (x::l)=x.flat.length+msr l:=by simp[msr]
theorem fZ (a b:List U):msr (a++b)=msr a+msr b:=by simp[msr]
theorem ee:∀l:List U,l.length<=msr l
 |[]=>Nat.le_refl _
 |x::l=>by have:=ee l;have:=x.flat_pos;rw[cR,length_cons];omega
theorem gX:∀us:List U,msr us=(U.flats us).length
 |[]=>by rw[bt];rfl
 |u::us=>by rw[cR,gX us,aD,length_append]
theorem iE (p:U->Bool):∀l:List U,msr (l.filter p)<=msr l
 |[]=>Nat.le_refl _
 |x::l=>by
  have:=iE p l
  rw[filter_cons]
  split
  ·rw[cR,cR];omega
  ·rw[cR];omega
theorem fQ (s:Stp):∀l:List U,msr (ay l s)<=msr l
 |[]=>Nat.le_refl _
 |x::l=>by
  have h1:=fQ s l
  have h2:=iE (λk=>aJ k s) x.kids
  have h3:msr x.kids=x.flat.length-1:=by rw[gX,U.flat_eq];simp
  have e:ay (x::l) s=x.kids.filter (λk=>aJ k s)++ay l s:=by simp[ay]
  rw[e,fZ,cR];omega
theorem mP {u x:U} (hx:x∈u.flat):x.flat.length<=u.flat.length:=by
 revert hx
 refine U.ind (p:=λu=>x∈u.flat->x.flat.length<=u.flat.length) (λu ih hx=>?_) u
 rw[U.flat_eq]at hx
 rcases mem_cons.1 hx with rfl|hx
 ·exact Nat.le_refl _
 ·obtain⟨y,hy,hx⟩:=ce hx
  have h1:=ih y hy hx
  have h2:=U.flats_mem hy
  rw[U.flat_eq u,length_cons];omega
theorem msr_le {N:Nat}:∀{l:List U},(∀x∈l,x.flat.length<=N)->msr l<=l.length*N
 |[],_=>Nat.zero_le _
 |x::l,h=>by
  have h1:=msr_le (l:=l) λy hy=>h y (by simp[hy])
  have h2:=h x (by simp)
  rw[cR,length_cons,Nat.add_mul];omega
theorem msr_flat (u:U):msr u.flat<=u.flat.length*u.flat.length:=msr_le λx hx=>mP hx
def cu (u:U) (s:Stp):List U:=if j5 s then [u]else u.flat.filter λx=>aJ x s
theorem ir (u:U) (s:Stp):msr (cu u s)<=u.flat.length*u.flat.length:=by
 unfold cu
 split
 ·have:=u.flat_pos
  rw[cR,j7]
  exact Nat.le_mul_of_pos_right _ this
 ·exact Nat.le_trans (iE _ _) (msr_flat u)
theorem mG:∀(r:List Stp) (l:List U),msr (r.foldl ay l)<=msr l
 |[],l=>Nat.le_refl _
 |s::r,l=>Nat.le_trans (mG r (ay l s)) (fQ s l)
theorem jG (u:U) (p:List Stp):(eu u p).length<=u.flat.length*u.flat.length:=by
 refine Nat.le_trans (ee _) ?_
 unfold eu
 split
 ·exact Nat.zero_le _
 ·split
  ·have:=u.flat_pos
   rw[cR,j7]
   exact Nat.le_mul_of_pos_right _ this
  ·exact Nat.le_trans (mG _ _) (ir u _)
theorem ik (l:List U) (x:U) (s:Stp):ay (l++[x]) s=ay l s++x.kids.filter λk=>aJ k s:=by simp[ay]
def zPre (l:List U) (y:Stp) (ks:List U) (j k:Nat):List U:=ay (l.take j) y++(ks.take k).filter λx=>aJ x y
theorem lZ (l:List U) (y:Stp) (ks:List U) (j:Nat):zPre l y ks j 0=ay (l.take j) y:=by simp[zPre]
theorem ml (l:List U) (y:Stp) (ks:List U) (j:Nat):zPre l y ks j ks.length=ay (l.take j) y++ks.filter λx=>aJ x y:=by simp[zPre]
theorem oL (l:List U) (y:Stp) (ks:List U) (j k:Nat):(zPre l y ks j k).length=(ay (l.take j) y).length+((ks.take k).filter λx=>aJ x y).length:=by simp[zPre]
theorem oK {l:List U} {y:Stp} {ks:List U} {j k:Nat} {q:U} {r:List U} (hq:Rest ks k q r) (hc:aJ q y=true):zPre l y ks j (k+1)=zPre l y ks j k++[q]:=by
 unfold zPre
 rw[hq.take,filter_append,append_assoc]
 simp[hc]
theorem oF {l:List U} {y:Stp} {ks:List U} {j k:Nat} {q:U} {r:List U} (hq:Rest ks k q r) (hc:aJ q y=false):zPre l y ks j (k+1)=zPre l y ks j k:=by
 unfold zPre
 rw[hq.take,filter_append]
 simp[hc]
section
variable (G:Glob)
theorem f13 (u:U) (a b:Int) (hs:u.Short) (hw:u.wt<=90000000000):Pure G Tryz.prog 13 [.agg u.cs,.int .i64 a,.int .i64 b] (.agg (stampU u a b).cs):=by
 have hS:=f36 G a b u hs 1 0 (by decide) (by decide) (by have:=hs.1.2;omega) (by omega)
 unfold jl at hS
 have hR0:(U.stamp a b u 1 0).1=stampU u a b:=rfl
 rw[hR0]at hS
 refine Pure.w c13 λR hR=>?_
 unfold s13 r13
 (repeat' (first|(with_reducible refine ab hS ?_)|simp only[EVz,seval,↓reduceIte,EV6,EV7,hne]|simp only[EVz,seval,↓reduceIte,EV6,EV7]|(with_reducible intro blk hblk;(try(have hnx:=hblk;simp only[EVK]at hnx;first|(have hne:=AI hnx hne)|(have hne:=hnx))))|fail))
 exact RET.eq hR rfl
set_option maxHeartbeats 2000000 in
theorem f154 (u:U) (p:List Stp) (ht:u.Tame) (hN:u.flat.length<=1024) (hp:p.length<1000000) (hpl:∀s∈p,s.label.length<1000000000000000000):Pure G Tryz.prog 154 [.agg u.cs,.lst 2 (p.map Stp.cs)] (.lst 8 ((eu u p).map U.cs)):=by
 have hM:=f140 G p hp hpl
 have hE:=f22 G u ht
 refine Pure.w c154 λR hR=>?_
 unfold s154 r154
 unfold eu at hR
 cases hok:cC p with
 |false=>
  rw[hok,if_pos rfl]at hR
  rw[hok]at hM
  (repeat' (first|(with_reducible refine ab hM ?_)|simp only[EVz,seval,↓reduceIte,EV6,EV7]|fail))
  exact hR _ _ (Or.inl (Or.inr rfl))
 |true=>
  rw[hok]at hM hR
  simp only[Bool.true_eq_false,if_false]at hR
  by_cases h0:p=[]
  ·subst h0
   simp only[map_nil]at hM ⊢
   (repeat' (first|(with_reducible refine ab hM ?_)|simp only[EVz,seval,↓reduceIte,EV6,EV7]|(with_reducible intro blk hblk;(try(have hnx:=hblk;simp only[EVK]at hnx;(have hne:=hnx))))|(refine⟨[u.cs],rfl,(by simp[U.cs_len]),(by simp),?_⟩)|fail))
   exact hR _ _ (Or.inl (Or.inr ⟨rfl,rfl⟩))
  ·obtain⟨s,r,hpe⟩:∃s r,p=s::r:=by cases p<;>simp_all
   have hR2:∀x σ,AVle x (.lst 8 ((r.foldl ay (cu u s)).map U.cs))->RET x σ R:=by
    rw[hpe]at hR
    exact hR
   clear hR
   have hlen:p.length=r.length+1:=by rw[hpe];simp
   have hg0:(p.map Stp.cs).getD 0 []=s.cs:=by rw[hpe];rfl
   have e0:decide ((p.length:Int)=0)=false:=decide_eq_false (by omega)
   have hB:=f193 G s.kind s.label
   have hN2:u.flat.length*u.flat.length<=1048576:=Nat.mul_le_mul hN hN
   have hfl:=ir u s
   have hfl2:=ee (cu u s)
   cases hb:j5 s
   case' true=>
    have hb2:(decide (s.kind=0)&&decide (s.label=[]))=true:=hb
    rw[hb2]at hB
    have hf0:cu u s=[u]:=by unfold cu;rw[hb];rfl
    (repeat' (first|(with_reducible refine AI (by omega) ?_)|(with_reducible first|refine ab hM ?_|refine ab hB ?_)|simp only[EVz,seval,↓reduceIte,EV6,EV7,hg0,e0,hne]|simp only[EVz,seval,↓reduceIte,EV6,EV7,hg0,e0]|(with_reducible intro blk hblk;(try(have hnx:=hblk;simp only[EVK]at hnx;first|(have hne:=AI hnx hne)|(have hne:=hnx))))|(refine⟨[],rfl,(by simp),rfl,?_⟩)|(refine⟨[u.cs],rfl,(by simp[U.cs_len]),(by simp),?_⟩)|(refine cH (by exact bT (by assumption)) rfl rfl (by simp<;>omega) (λgn=>?_))|fail))
   case' false=>
    have hb2:(decide (s.kind=0)&&decide (s.label=[]))=false:=hb
    rw[hb2]at hB
    have hf0:cu u s=u.flat.filter λx=>aJ x s:=by unfold cu;rw[hb];rfl
    (repeat' (first|(with_reducible refine AI (by omega) ?_)|(with_reducible first|refine ab hM ?_|refine ab hB ?_|refine ab hE ?_)|simp only[EVz,seval,↓reduceIte,EV6,EV7,hg0,e0,hne]|simp only[EVz,seval,↓reduceIte,EV6,EV7,hg0,e0]|(with_reducible intro blk hblk;(try(have hnx:=hblk;simp only[EVK]at hnx;(have hne:=hnx))))|(refine⟨[],rfl,(by simp),rfl,?_⟩)|fail))
    refine Zq (ι:=Option Nat) u.flat (λi r c=>True) (λi c=>[(1,.lst 2 (p.map Stp.cs)),(5,.own c 27 8 (((u.flat.take i).filter λx=>aJ x s).map U.cs)),(6,.lst 8 (u.flat.map U.cs)),(7,.int .i64 i)]) (λi c=>tokS c 27 (((u.flat.take i).filter λx=>aJ x s).length*8)) (some blk) trivial (Weak.rfl' _ _) (by omega) (λi x r c hok hx hw=>?_) (λc hok hn=>?_)
    ·have hA:=f202 G x s
     have hfn:((u.flat.take i).filter λx=>aJ x s).length<=i:=Nat.le_trans (length_filter_le _ _) (by rw[length_take];omega)
     have hil:=hx.lt
     cases hc:aJ x s
     case' true=>
      have ef:(u.flat.take (i+1)).filter (λx=>aJ x s)=(u.flat.take i).filter (λx=>aJ x s)++[x]:=by rw[hx.take,filter_append];simp[hc]
     case' false=>
      have ef:(u.flat.take (i+1)).filter (λx=>aJ x s)=(u.flat.take i).filter (λx=>aJ x s):=by rw[hx.take,filter_append];simp[hc]
     all_goals
      rw[hc]at hA
      (repeat' (first|(with_reducible refine AI (by omega) ?_)|(with_reducible refine ab hA ?_)|simp only[EVz,seval,↓reduceIte,EV6,EV7,hx.yes,hx.le0,hx.lt',hx.row,hw,hx.get,hg0,hne]|(with_reducible intro blk hblk;(try(have hnx:=hblk;simp only[EVK]at hnx;(have hne:=hnx))))|(with_reducible refine ak ?_ ?_)|(with_reducible refine am ?_)|(refine⟨[x.cs],rfl,(by simp[U.cs_len]),(by simp),?_⟩)|(refine cH (by((simp only[length_map]<;>exact bT (by assumption)))) rfl rfl (by simp<;>omega) (λgn=>?_))|fail))
     all_goals first
      |(refine af hx gn trivial ?_
        rw[ef,map_append,length_append]
        simp only[length_map,map_cons,map_nil,length_append,length_cons,length_nil]
        exact Weak.rfl' _ _)
      |(refine af hx c trivial ?_
        rw[ef]
        exact Weak.rfl' _ _)
    (repeat' (simp only[EVz,seval,↓reduceIte,EV6,EV7,hn,hne]))
   all_goals
    refine Zq (ι:=List U) r (λi rr l=>r.foldl ay (cu u s)=rr.foldl ay l/\msr l<=1048576) (λi l=>[(1,.lst 2 (p.map Stp.cs)),(5,.lst 8 (l.map U.cs)),(8,.int .i64 ((i+1:Nat):Int))]) (λ_ _=>[]) (cu u s) ⟨rfl,by omega⟩ (Weak.of (by simp[cQ,Env.get,AVle,aP,hf0]) (SubN.nil _)) (by omega) (λi y rr l hok2 hx hw=>?_) (λl hok2 hn=>?_)
    ·have hil:=hx.lt
     have e1:decide (((i+1:Nat):Int)<(p.length:Int))=true:=decide_eq_true (by omega)
     have w1:IntKind.i64.wrap (((i+1:Nat):Int)+1)=((i+1+1:Nat):Int):=by rw[au (by omega) (by omega)];omega
     have hgi:(p.map Stp.cs).getD (i+1) []=y.cs:=by
      have:=hx.row Stp.cs []
      rw[hpe]
      simpa using this
     have hll:=ee l
     (repeat' (first|simp only[EVz,seval,↓reduceIte,EV6,EV7,e1,w1,hgi,hne]|(with_reducible intro blk hblk;(try(have hnx:=hblk;simp only[EVK]at hnx;(have hne:=AI hnx hne))))|(refine⟨[],rfl,(by simp),rfl,?_⟩)|fail))
     refine Zq (ι:=Option Nat) l (λj rl c=>True) (λj c=>[(1,.lst 2 (p.map Stp.cs)),(5,.lst 8 (l.map U.cs)),(8,.int .i64 ((i+1:Nat):Int)),(9,.own c 27 8 ((ay (l.take j) y).map U.cs)),(10,.int .i64 j)]) (λj c=>tokS c 27 ((ay (l.take j) y).length*8)) (some blk) trivial (Weak.rfl' _ _) (by omega) (λj z rl c hok3 hz hwz=>?_) (λc hok3 hnz=>?_)
     ·have hsn:ay (l.take (j+1)) y=ay (l.take j) y++z.kids.filter λk=>aJ k y:=by rw[hz.take,ik]
      have hsl:(ay (l.take (j+1)) y).length<=1048576:=by
       have h1:=ee (ay (l.take (j+1)) y)
       have h2:=fQ y (l.take (j+1))
       have h3:msr l=msr (l.take (j+1))+msr (l.drop (j+1)):=by rw[←fZ,take_append_drop]
       omega
      have hzk:z.kids.length<=1048576:=by
       have h1:=ee z.kids
       have h2:=gX z.kids
       have h3:z.flat.length=1+(U.flats z.kids).length:=by rw[U.flat_eq,length_cons];omega
       have h4:msr l=msr (l.take (j+1))+msr (l.drop (j+1)):=by rw[←fZ,take_append_drop]
       have h5:msr (l.take (j+1))=msr (l.take j)+z.flat.length:=by rw[hz.take,fZ,cR,j7];omega
       omega
      rw[hsn,length_append]at hsl
      (repeat' (simp only[EVz,seval,↓reduceIte,EV6,EV7,hz.yes,hz.le0,hz.lt',hz.row,hwz,hz.get,hne]))
      have hZ0:=lZ l y z.kids j
      have hZn:zPre l y z.kids j z.kids.length=ay (l.take (j+1)) y:=by rw[hsn,ml]
      refine Zq (ι:=Option Nat) z.kids (λk rk c=>True) (λk c=>[(1,.lst 2 (p.map Stp.cs)),(5,.lst 8 (l.map U.cs)),(8,.int .i64 ((i+1:Nat):Int)),(9,.own c 27 8 ((zPre l y z.kids j k).map U.cs)),(10,.int .i64 j),(11,.int .i64 k)]) (λk c=>tokS c 27 ((zPre l y z.kids j k).length*8)) c trivial (Weak.of (by simp[cQ,Env.get,AVle,aP,hZ0]) (by simp only[hZ0];exact SubN.refl _)) (Nat.lt_of_le_of_lt hzk (by decide)) (λk q rk c hok4 hq hwq=>?_) (λc hok4 hnq=>?_)
      ·have hA:=f202 G q y
       have hfk:((z.kids.take k).filter λk=>aJ k y).length<=k:=Nat.le_trans (length_filter_le _ _) (by rw[length_take];omega)
       have hkl:=hq.lt
       have hA1:(ay (l.take j) y).length<=1048576:=Nat.le_trans (Nat.le_add_right _ _) hsl
       have hB1:((z.kids.take k).filter λk=>aJ k y).length<=1048576:=Nat.le_trans hfk (Nat.le_trans (Nat.le_of_lt hkl) hzk)
       have hZl:(zPre l y z.kids j k).length<=2097152:=by
        rw[oL]
        exact Nat.add_le_add hA1 hB1
       have hcc:aJ q y=true\/aJ q y=false:=by
        cases aJ q y
        ·exact .inr rfl
        ·exact .inl rfl
       rcases hcc with hc|hc
       ·have ef:zPre l y z.kids j (k+1)=zPre l y z.kids j k++[q]:=oK hq hc
        rw[hc]at hA
        clear hfl hfl2 hN2 hsl hzk hsn hll hZ0 hZn hN hfk hpl hp hf0 hA1 hB1
        (repeat' (first|(with_reducible refine AI (by omega) ?_)|(with_reducible refine ab hA ?_)|simp only[EVz,seval,↓reduceIte,EV6,EV7,hz.yes,hz.le0,hz.lt',hz.row,hwz,hz.get,hq.yes,hq.le0,hq.lt',hq.row,hwq,hq.get,hgi,hne]|(with_reducible intro blk hblk;(try(have hnx:=hblk;simp only[EVK]at hnx;(have hne:=hnx))))|(with_reducible refine ak ?_ ?_)|(with_reducible refine am ?_)|(refine⟨[q.cs],rfl,(by simp[U.cs_len]),(by simp),?_⟩)|(refine cH (by((simp only[length_map]<;>exact bT (by assumption)))) rfl rfl (by simp<;>omega) (λgn=>?_))|fail))
        all_goals
         refine af hq gn trivial ?_
         rw[ef,map_append,length_append]
         simp only[length_map,map_cons,map_nil,length_append,length_cons,length_nil]
         exact Weak.rfl' _ _
       ·have ef:zPre l y z.kids j (k+1)=zPre l y z.kids j k:=oF hq hc
        rw[hc]at hA
        clear hfl hfl2 hN2 hsl hzk hsn hll hZ0 hZn hN hfk hpl hp hf0 hA1 hB1
        (repeat' (first|(with_reducible refine AI (by omega) ?_)|(with_reducible refine ab hA ?_)|simp only[EVz,seval,↓reduceIte,EV6,EV7,hz.yes,hz.le0,hz.lt',hz.row,hwz,hz.get,hq.yes,hq.le0,hq.lt',hq.row,hwq,hq.get,hgi,hne]|(with_reducible refine ak ?_ ?_)|(with_reducible refine am ?_)|fail))
        all_goals
         refine af hq c trivial ?_
         rw[ef]
         exact Weak.rfl' _ _
      ·(try simp only[EVz,seval,↓reduceIte,EV6,EV7,hz.yes,hz.le0,hz.lt',hz.row,hwz,hz.get,hnq])
       refine af hz c trivial ?_
       rw[hZn]
       exact Weak.rfl' _ _
     ·(repeat' (simp only[EVz,seval,↓reduceIte,EV6,EV7,hnz,w1,hne]))
      refine af hx (ay l y) ⟨hok2.1,Nat.le_trans (fQ y l) hok2.2⟩ (Weak.of (by simp[cQ,Env.get,AVle,aP,take_length]) (SubN.nil _))
    ·have e1:decide (((r.length+1:Nat):Int)<(p.length:Int))=false:=decide_eq_false (by omega)
     (repeat' (simp only[EVz,seval,↓reduceIte,EV6,EV7,e1,hne]))
     exact hR2 _ _ (Or.inl (Or.inl (by rw[hok2.1];rfl)))
end
def gx (u:U) (p:List Stp):AV:=.tup [.agg [.int .i64 (one u p).1.act,.int .i64 (one u p).1.item,.int .i64 (one u p).1.n],.int .i64 (one u p).2]
def lk (u:U) (p:List Stp):List Idd:=(eu u p).map U.id
section
variable (G:Glob)
theorem f81 (u:U) (p:List Stp) (ht:u.Tame) (hN:u.flat.length<=1024) (hp:p.length<1000000) (hpl:∀s∈p,s.label.length<1000000000000000000):Pure G Tryz.prog 81 [.agg u.cs,.lst 2 (p.map Stp.cs)] (.lst 3 ((lk u p).map Idd.cs)):=by
 have hU:=f154 G u p ht hN hp hpl
 have hl:=jG u p
 have hN2:u.flat.length*u.flat.length<=1048576:=Nat.mul_le_mul hN hN
 refine Pure.w c81 λR hR=>?_
 unfold s81 r81
 unfold lk at hR
 have hl2:(eu u p).length<=1048576:=Nat.le_trans hl hN2
 clear hl hN2 hN
 obtain⟨l,hll⟩:∃l,eu u p=l:=⟨_,rfl⟩
 rw[hll]at hR hU hl2
 (repeat' (first|(with_reducible refine ab hU ?_)|simp only[EVz,seval,↓reduceIte,EV6,EV7,hne]|simp only[EVz,seval,↓reduceIte,EV6,EV7]|(with_reducible intro blk hblk;(try(have hnx:=hblk;simp only[EVK]at hnx;(have hne:=hnx))))|(refine⟨[],rfl,(by simp),rfl,?_⟩)|fail))
 refine Zq (ι:=Option Nat) l (λi r c=>True) (λi c=>[(5,.own c 23 3 ((l.take i).map λx=>x.id.cs)),(6,.lst 8 (l.map U.cs)),(7,.int .i64 i)]) (λi c=>tokS c 23 (i*3)) (some blk) trivial (Weak.rfl' _ _) (by omega) (λi x r c hok hx hw=>?_) (λc hok hn=>?_)
 ·have hi:=hx.lt
  (repeat' (first|simp only[EVz,seval,↓reduceIte,EV6,EV7,hx.yes,hx.le0,hx.lt',hx.row,hw,hx.get,hne]|(with_reducible intro blk hblk;(try(have hnx:=hblk;simp only[EVK]at hnx;(have hne:=hnx))))|fail))
  refine cV (n:=i) (m':=(i+1)*3) bI (by rw[length_map,length_take];omega) rfl rfl rfl (by assumption) (by omega) (λgn=>?_)
  refine af hx gn trivial ?_
  simp only[hx.take,map_append,map_cons,map_nil]
  exact Weak.rfl' _ _
 ·(repeat' (simp only[EVz,seval,↓reduceIte,EV6,EV7,hn,hne]))
  exact hR _ _ (Or.inl (Or.inr ⟨rfl,by rw[take_length,map_map];rfl⟩))
theorem f44 (u:U) (p:List Stp) (ht:u.Tame) (hN:u.flat.length<=1024) (hp:p.length<1000000) (hpl:∀s∈p,s.label.length<1000000000000000000):Pure G Tryz.prog 44 [.agg u.cs,.lst 2 (p.map Stp.cs)] (gx u p):=by
 have hU:=f81 G u p ht hN hp hpl
 refine Pure.w c44 λR hR=>?_
 unfold s44 r44
 unfold gx one at hR
 unfold lk at hU
 generalize eu u p=l at*
 rcases l with _|⟨x,_|⟨y,l⟩⟩
 ·simp only[map_nil]at hU hR
  (repeat' (first|(with_reducible refine ab hU ?_)|simp only[EVz,seval,↓reduceIte,EV6,EV7,hne]|simp only[EVz,seval,↓reduceIte,EV6,EV7]|(with_reducible intro blk hblk;(try(have hnx:=hblk;simp only[EVK]at hnx;(have hne:=hnx))))|fail))
  exact hR _ _ (Or.inl (Or.inl rfl))
 ·simp only[map_cons,map_nil,Idd.cs]at hU hR
  (repeat' (first|(with_reducible refine ab hU ?_)|simp only[EVz,seval,↓reduceIte,EV6,EV7,hne]|simp only[EVz,seval,↓reduceIte,EV6,EV7]|(with_reducible intro blk hblk;(try(have hnx:=hblk;simp only[EVK]at hnx;(have hne:=hnx))))|fail))
  all_goals exact hR _ _ (Or.inl (Or.inl rfl))
 ·simp only[map_cons,Idd.cs]at hU hR
  (repeat' (first|(with_reducible (refine ae (λh=>?_) (λh=>?_))<;>(try simp only[Da,Db,Dc,Dw,De,Df,Dg,Dh]at h))|(with_reducible refine AI (by omega) ?_)|(with_reducible refine ab hU ?_)|simp only[EVz,seval,↓reduceIte,EV6,EV7,hne]|simp only[EVz,seval,↓reduceIte,EV6,EV7]|(with_reducible intro blk hblk;(try(have hnx:=hblk;simp only[EVK]at hnx;(have hne:=hnx))))|(exfalso;omega)|fail))
  all_goals exact hR _ _ (Or.inl (Or.inl rfl))
end
def Dd.cs (d:Dd):List AV:=.int .i64 d.act:: .int .i64 d.item:: .int .i64 d.day::d.it.cs
theorem W_tail5 {G:Glob} {P:Program} {a b c d e X:SCode} {Q:Exit->Env->Store->Prop} {tQ:Tag Q} {env:Env} {σ:Store}
  (h:∀Y,Y=X->W G P (.seq a (.seq b (.seq c (.seq d (.seq e Y))))) Q env σ ⟨⟩):W G P (.seq a (.seq b (.seq c (.seq d (.seq e X))))) Q env σ tQ:=h X rfl
def tailR (u:U) (d:Dd) (P:U) (dp k:Nat):U×Int:=
 if bJ P P.kids (stampU d.it.unit d.act d.item)≠0 then (u,bJ P P.kids (stampU d.it.unit d.act d.item))
 else if 64<=P.kids.length\/8<(dp:Int)+1+(stampU d.it.unit d.act d.item).dep\/1024<u.cnt+(stampU d.it.unit d.act d.item).cnt then (u,6)
 else if (stampU d.it.unit d.act d.item).ids.any (λy=>decide (y∈u.ids))then (u,5)
 else (U.put {P with kids:=aR P.kids k (stampU d.it.unit d.act d.item)} u,0)
theorem insR_tail (u:U) (i:Idd) (d:Dd):insR u i d=if (d.it.wh=2\/d.it.wh=3)/\i=u.id then (u,9)else tailR u d (bS u i d.it.wh).1 (bS u i d.it.wh).2.1 (bS u i d.it.wh).2.2:=rfl
def aQ (q:U×Int):AV:=.tup [.agg q.1.cs,.int .i64 q.2]
structure Unit0 (d:Dd):Prop where
 nodes:∀y∈d.it.unit.flat,nodeOk y=true
 cnt:d.it.unit.flat.length<=1024
theorem wt_le {u:U} (h:∀y∈u.flat,nodeOk y=true):u.wt<=u.flat.length*512:=by
 unfold U.wt
 have:∀l:List U,(∀y∈l,nodeOk y=true)->(l.map λy=>y.head.length+y.words.length).sum<=l.length*512:=by
  intro l
  induction l with
  |nil=>intro _;simp
  |cons x l ih=>
   intro h
   have h1:=ih λy hy=>h y (by simp[hy])
   have h2:=dk (h x (by simp))
   have h3:=h2.head.1
   have h4:=h2.words.1
   rw[map_cons,sum_cons,length_cons]
   omega
 exact this u.flat h
theorem jz (j:Idd) (u:U):(j∈u.ids->∃n:Nat,n<=u.flat.length/\eY j u= .tup [.agg (fnd j u).cs,.int .i64 n])/\(j∉u.ids->eY j u= .tup [.agg zU,.int .i64 (-1)]):=by
 constructor
 ·intro h
  have h1:=ci.2 h
  have h2:=el j u
  unfold eY
  cases hw:U.way j u with
  |nil=>exact absurd hw h1
  |cons x l=>
   rw[hw]at h2
   exact⟨l.length,by simp at h2;omega,rfl⟩
 ·intro h
  unfold eY
  rw[(dI u).2 h]
section
variable (G:Glob)
set_option maxHeartbeats 2000000 in
theorem f73 (u:U) (hu:Good u) (i:Idd) (hi:i∈u.ids) (d:Dd) (h0:0<=d.it.wh) (h3:d.it.wh<=3) (hd:Unit0 d):Pure G Tryz.prog 73 [.agg u.cs,.agg i.cs,.agg d.cs] (aQ (insR u i d)):=by
 have hs:=hu.short
 have hcu:=hu.cnt
 have hus:=cf hd.nodes (by have:=hd.cnt;omega)
 have hSt:=f13 G d.it.unit d.act d.item hus (by have h1:=wt_le hd.nodes;have h2:=hd.cnt;omega)
 obtain⟨s1,s2,s3,s4,s5⟩:=dW d.it.unit d.act d.item hd.nodes
 rw[insR_tail]
 refine Pure.w c73 λR hR=>?_
 unfold s73 r73
 refine W_tail5 λY hY=>?_
 unfold aQ at hR
 have tail:∀(P:U) (dp k b6 b8:Nat),¬b8=b6->P.kids.length<=64->k<=P.kids.length->dp<=2000->(∀z σ,AVle z (aQ (tailR u d P dp k))->RET z σ R)->
   W G Tryz.prog Y (retQ [(6,some (true,8)),(7,none)] R) [(3,.ref u.cs),(5,.ref d.cs),(6,.sc (.pointer (some ⟨b6,0,none⟩))),(8,.sc (.pointer (some ⟨b8,0,none⟩))),(9,.int .i64 dp),(10,.int .i64 k)] [(b8,.cells 27 P.cs),(b6,.cells 27 zU)] ⟨⟩:=by
  intro P dp k b6 b8 hb hPk hk hdp hT
  unfold aQ tailR at hT
  obtain⟨x,hx⟩:∃x,stampU d.it.unit d.act d.item=x:=⟨_,rfl⟩
  rw[hx]at hT hSt s1 s2 s3 s4 s5
  have hb':¬b6=b8:=λe=>hb e.symm
  have hxs:x.Short:=cf s5 (by rw[s3];have:=hd.cnt;omega)
  have hN:=f147 G P.kind x.kind
  have hTk:=f79 G P.kids x.kind x.label (by omega)
  have hDp:=f148 G x hxs.1
  have hCu:=f149 G u hs.1
  have hCx:=f149 G x hxs.1
  have hEv:=f22 G x hxs.1
  have hIn:=f150 G P.kids k x hk (by omega)
  have hWi:=f77 G {P with kids:=aR P.kids k x} u hs.1
  have hdx:=x.dep_ge
  have hdx2:=x.dep_cnt
  have hcx:x.cnt=d.it.unit.flat.length:=by unfold U.cnt;rw[s3]
  have hcx2:(0:Int)<=x.cnt/\x.cnt<=1024:=by have:=hd.cnt;omega
  have hcu2:(0:Int)<=u.cnt/\u.cnt<=1024:=by unfold U.cnt;omega
  have w1:IntKind.i64.wrap ((dp:Int)+1)=(dp:Int)+1:=au (by omega) (by omega)
  have w2:IntKind.i64.wrap ((dp:Int)+1+x.dep)=(dp:Int)+1+x.dep:=au (by omega) (by omega)
  have w3:IntKind.i64.wrap (u.cnt+x.cnt)=u.cnt+x.cnt:=au (by omega) (by omega)
  have hget:=λy=>f45 G y u hs.1
  clear s1 s2 s4 hcx
  rw[U.cs_eq]at hSt
  rw[U.cs_eq {P with kids:=aR P.kids k x}]at hWi
  subst hY
  unfold Dd.cs
  rw[U.cs_eq P]
  rw[U.cs_eq x]at hSt hDp hCx hEv hIn
  (repeat' (first|(with_reducible (first|refine ae (λh=>?_) (λh=>?_)|refine ag (λh=>?_) (λh=>?_))<;>(try simp only[Da,Db,Dc,Dw,De,Df,Dg,Dh]at h))|(with_reducible first|refine ab hSt ?_|refine ab hN ?_|refine ab hTk ?_|refine ab hDp ?_|refine ab hCu ?_|refine ab hCx ?_|refine ab hEv ?_)|simp only[EVz,seval,↓reduceIte,EV6,EV7,hb,hb',w1,w2,w3,hne]|simp only[EVz,seval,↓reduceIte,EV6,EV7,hb,hb',w1,w2,w3]|(with_reducible intro blk hblk;(try(have hnx:=hblk;simp only[EVK]at hnx;(have hne:=hnx))))|(with_reducible refine ak ?_ ?_)|(with_reducible refine am ?_)|fail))
  all_goals try(refine hT _ _ (Or.inl (Or.inl ?_));simp[bJ, *];done)
  all_goals have ht0:bJ P P.kids x=0:=by simp[bJ, *]
  all_goals try(
   refine hT _ _ (Or.inl (Or.inl ?_))
   rw[if_neg (by rw[ht0];simp),if_pos (by exact .inl (by omega))]
   done)
  all_goals
   have hno:¬(64<=P.kids.length\/8<(dp:Int)+1+x.dep\/1024<u.cnt+x.cnt):=by omega
   rw[if_neg (by rw[ht0];simp),if_neg hno]at hT
   have hfl:x.flat.length<=1024:=by rw[s3];exact hd.cnt
   refine Zq x.flat (λi r (c:Unit)=>∀y∈x.flat.take i,y.id∉u.ids) (λi c=>[(3,.ref u.cs),(6,.sc (.pointer (some ⟨b6,0,none⟩))),(8,.sc (.pointer (some ⟨b8,0,none⟩))),(10,.int .i64 k),(11,.sc (.pointer (some ⟨blk,0,none⟩))),(12,.lst 8 (x.flat.map U.cs)),(13,.int .i64 i)]) (λi c=>[(blk,.cells 27 [.int .i64 x.id.act,.int .i64 x.id.item,.int .i64 x.id.n,.int .i64 x.kind,.str x.label,.lst 4 (x.head.map Wd.cs),.lst 4 (x.words.map Wd.cs),.lst 8 (x.kids.map U.cs)]),(b8,.cells 27 [.int .i64 P.id.act,.int .i64 P.id.item,.int .i64 P.id.n,.int .i64 P.kind,.str P.label,.lst 4 (P.head.map Wd.cs),.lst 4 (P.words.map Wd.cs),.lst 8 (P.kids.map U.cs)]),(b6,.cells 27 zU)]) () (by simp) (Weak.rfl' _ _) (by omega) (λi y r c hok hx2 hw=>?_) (λc hok hn=>?_)
   ·have hg:=hget y.id
    rcases Classical.em (y.id∈u.ids)with hm|hm
    ·obtain⟨n,hnl,e⟩:=(jz y.id u).1 hm
     rw[e]at hg
     simp only[Idd.cs]at hg
     have hany:(x.ids.any λy=>decide (y∈u.ids))=true:=any_eq_true.2 ⟨y.id,mem_map.2 ⟨y,hx2.mem,rfl⟩,decide_eq_true hm⟩
     rw[if_pos hany]at hT
     (repeat' (first|(with_reducible (refine ae (λh=>?_) (λh=>?_))<;>(try simp only[Da,Db,Dc,Dw,De,Df,Dg,Dh]at h))|(with_reducible refine ab hg ?_)|simp only[EVz,seval,↓reduceIte,EV6,EV7,hx2.yes,hx2.le0,hx2.lt',hx2.row,hw,hx2.get,hb,hb',hne]|(with_reducible intro blk hblk;(try(have hnx:=hblk;simp only[EVK]at hnx;(have hne:=AI hnx hne))))|(with_reducible refine ak ?_ ?_)|(with_reducible refine am ?_)|(exfalso;omega)|fail))
     all_goals exact hT _ _ (Or.inl (Or.inl rfl))
    ·have e:=(jz y.id u).2 hm
     rw[e]at hg
     simp only[Idd.cs]at hg
     (repeat' (first|(with_reducible refine ab hg ?_)|simp only[EVz,seval,↓reduceIte,EV6,EV7,hx2.yes,hx2.le0,hx2.lt',hx2.row,hw,hx2.get,hb,hb',hne]|(with_reducible intro blk hblk;(try(have hnx:=hblk;simp only[EVK]at hnx;(have hne:=AI hnx hne))))|(with_reducible refine ak ?_ ?_)|(with_reducible refine am ?_)|fail))
     all_goals first
      |(exfalso;omega)
      |(refine af hx2 () ?_ (Weak.sub ((SubN.refl _).tail _))
        intro z hz
        rw[hx2.take,mem_append,mem_singleton]at hz
        rcases hz with hz|rfl
        ·exact hok z hz
        ·exact hm)
   ·rw[take_length]at hok
    have hany:¬(x.ids.any λy=>decide (y∈u.ids))=true:=by
     rw[any_eq_true]
     rintro⟨y,hy,hy2⟩
     obtain⟨z,hz,rfl⟩:=mem_map.1 hy
     exact hok z hz (by simpa using hy2)
    rw[if_neg hany]at hT
    simp only at hWi
    (repeat' (first|(with_reducible first|refine ab hIn ?_|refine ab hWi ?_)|simp only[EVz,seval,↓reduceIte,EV6,EV7,hn,hb,hb',hne]|fail))
    all_goals exact hT _ _ (Or.inl (Or.inl rfl))
 have hG:=f45 G i u hs.1
 have hwl:=el i u
 have hwp:=eo hi
 have hgv:eY i u= .tup [.agg (fnd i u).cs,.int .i64 (((U.way i u).length-1:Nat):Int)]:=by
  unfold eY
  cases hw:U.way i u with
  |nil=>rw[hw]at hwp;simp at hwp
  |cons x l=>simp
 rw[hgv]at hG
 have hff:=aM u hu.nd hi
 have hfk:=cl (hu.node _ hff)
 have hh:d.it.wh=0\/d.it.wh=1\/d.it.wh=2\/d.it.wh=3:=by omega
 unfold Dd.cs at tail ⊢
 obtain⟨P0,hP0⟩:∃P0,fnd i u=P0:=⟨_,rfl⟩
 obtain⟨n0,hn0⟩:∃n0,(U.way i u).length-1=n0:=⟨_,rfl⟩
 rw[hP0,hn0]at hG
 rw[hP0]at hfk
 have hn0b:n0<=2000:=by omega
 rw[U.cs_eq P0]at hG
 simp only[Idd.cs]at hG ⊢
 rcases hh with hw|hw|hw|hw
 ·have hp0:bS u i d.it.wh=(P0,n0,0):=by unfold bS;rw[hw];simp[hP0,hn0]
  rw[if_neg (by omega),hp0]at hR
  simp only at hR
  have t:=λb6 b8 hb=>tail P0 n0 0 b6 b8 hb hfk (by omega) hn0b hR
  clear tail
  rw[U.cs_eq P0]at t
  (repeat' (first|(with_reducible refine ab hG ?_)|simp only[EVz,seval,↓reduceIte,EV6,EV7,hw,hne]|simp only[EVz,seval,↓reduceIte,EV6,EV7,hw]|(with_reducible intro blk hblk;(try(have hnx:=hblk;simp only[EVK]at hnx;first|(have hne:=AI hnx hne)|(have hne:=hnx))))|fail))
  have h:=t _ _ hne.1
  subst hY
  (try simp only[EVz,seval,↓reduceIte,EV6,EV7,hne])
  (try simp only[EVz,seval,↓reduceIte,EV6,EV7,hne]at h)
  exact h
 ·have hp0:bS u i d.it.wh=(P0,n0,P0.kids.length):=by unfold bS;rw[hw];simp[hP0,hn0]
  rw[if_neg (by omega),hp0]at hR
  simp only at hR
  have t:=λb6 b8 hb=>tail P0 n0 P0.kids.length b6 b8 hb hfk (by omega) hn0b hR
  clear tail
  rw[U.cs_eq P0]at t
  (repeat' (first|(with_reducible refine ab hG ?_)|simp only[EVz,seval,↓reduceIte,EV6,EV7,hw,hne]|simp only[EVz,seval,↓reduceIte,EV6,EV7,hw]|(with_reducible intro blk hblk;(try(have hnx:=hblk;simp only[EVK]at hnx;first|(have hne:=AI hnx hne)|(have hne:=hnx))))|fail))
  have h:=t _ _ hne.1
  subst hY
  (try simp only[EVz,seval,↓reduceIte,EV6,EV7,hne])
  (try simp only[EVz,seval,↓reduceIte,EV6,EV7,hne]at h)
  exact h
 ·by_cases hiu:i=u.id
  ·rw[if_pos ⟨.inl hw,hiu⟩]at hR
   simp only at hR
   clear tail
   subst hiu
   have e0:decide (u.id=u.id)=true:=decide_eq_true rfl
   (repeat' (first|(with_reducible (refine ae (λh=>?_) (λh=>?_))<;>(try simp only[Da,Db,Dc,Dw,De,Df,Dg,Dh]at h))|(with_reducible refine ab hG ?_)|simp only[EVz,seval,↓reduceIte,EV6,EV7,hw,ai,e0,hne]|simp only[EVz,seval,↓reduceIte,EV6,EV7,hw,ai,e0]|(with_reducible intro blk hblk;(try(have hnx:=hblk;simp only[EVK]at hnx;first|(have hne:=AI hnx hne)|(have hne:=hnx))))|fail))
   all_goals first|exact hR _ _ (Or.inl (Or.inl rfl))|(exfalso;simp at h;done)
  ·obtain⟨p,dd,j,q1,q2,q3⟩:=aW hu.nd hi (Ne.symm hiu)
   have hPa:=f75 G i u hs.1
   have hpv:ip i u= .tup [.agg p.cs,.int .i64 dd,.int .i64 j]:=by unfold ip;rw[eF u hu.nd hi,q1]
   rw[hpv,U.cs_eq p]at hPa
   have hpf:p∈u.flat:=by
    have:=aM u hu.nd q3.mem
    rw[q3.fnd]at this;exact this
   have hpk:=cl (hu.node _ hpf)
   have hd2:=(ky (by rw[eF u hu.nd hi];exact q1)).1
   obtain⟨aa,kk,bb,ss,hkk,hjj,hll⟩:=q3.split
   have hjl:j<p.kids.length:=by rw[ss.eq,hjj];simp
   have hp0:bS u i d.it.wh=(p,dd,j+1):=by unfold bS;rw[hw,q2];simp
   rw[if_neg λh=>hiu h.2,hp0]at hR
   simp only at hR
   have t:=λb6 b8 hb=>tail p dd (j+1) b6 b8 hb hpk (by omega) (by omega) hR
   clear tail
   rw[U.cs_eq p]at t
   have e0:decide (i=u.id)=false:=decide_eq_false hiu
   have w1:IntKind.i64.wrap ((j:Int)+1)=((j+1:Nat):Int):=by rw[au (by omega) (by omega)];omega
   simp only[Idd.cs]at hPa hG
   (repeat' (first|(with_reducible first|refine ab hG ?_|refine ab hPa ?_)|simp only[EVz,seval,↓reduceIte,EV6,EV7,hw,ai,e0,w1,hne]|simp only[EVz,seval,↓reduceIte,EV6,EV7,hw,ai,e0,w1]|(with_reducible intro blk hblk;(try(have hnx:=hblk;simp only[EVK]at hnx;first|(have hne:=AI hnx hne)|(have hne:=hnx))))|fail))
   exact t _ _ hne.1
 ·by_cases hiu:i=u.id
  ·rw[if_pos ⟨.inr hw,hiu⟩]at hR
   simp only at hR
   clear tail
   subst hiu
   have e0:decide (u.id=u.id)=true:=decide_eq_true rfl
   (repeat' (first|(with_reducible (refine ae (λh=>?_) (λh=>?_))<;>(try simp only[Da,Db,Dc,Dw,De,Df,Dg,Dh]at h))|(with_reducible refine ab hG ?_)|simp only[EVz,seval,↓reduceIte,EV6,EV7,hw,ai,e0,hne]|simp only[EVz,seval,↓reduceIte,EV6,EV7,hw,ai,e0]|(with_reducible intro blk hblk;(try(have hnx:=hblk;simp only[EVK]at hnx;first|(have hne:=AI hnx hne)|(have hne:=hnx))))|fail))
   all_goals first|exact hR _ _ (Or.inl (Or.inl rfl))|(exfalso;simp at h;done)
  ·obtain⟨p,dd,j,q1,q2,q3⟩:=aW hu.nd hi (Ne.symm hiu)
   have hPa:=f75 G i u hs.1
   have hpv:ip i u= .tup [.agg p.cs,.int .i64 dd,.int .i64 j]:=by unfold ip;rw[eF u hu.nd hi,q1]
   rw[hpv,U.cs_eq p]at hPa
   have hpf:p∈u.flat:=by
    have:=aM u hu.nd q3.mem
    rw[q3.fnd]at this;exact this
   have hpk:=cl (hu.node _ hpf)
   have hd2:=(ky (by rw[eF u hu.nd hi];exact q1)).1
   obtain⟨aa,kk,bb,ss,hkk,hjj,hll⟩:=q3.split
   have hjl:j<p.kids.length:=by rw[ss.eq,hjj];simp
   have hp0:bS u i d.it.wh=(p,dd,j):=by unfold bS;rw[hw,q2];simp
   rw[if_neg λh=>hiu h.2,hp0]at hR
   simp only at hR
   have t:=λb6 b8 hb=>tail p dd j b6 b8 hb hpk (by omega) (by omega) hR
   clear tail
   rw[U.cs_eq p]at t
   have e0:decide (i=u.id)=false:=decide_eq_false hiu
   simp only[Idd.cs]at hPa hG
   (repeat' (first|(with_reducible first|refine ab hG ?_|refine ab hPa ?_)|simp only[EVz,seval,↓reduceIte,EV6,EV7,hw,ai,e0,hne]|simp only[EVz,seval,↓reduceIte,EV6,EV7,hw,ai,e0]|(with_reducible intro blk hblk;(try(have hnx:=hblk;simp only[EVK]at hnx;first|(have hne:=AI hnx hne)|(have hne:=hnx))))|fail))
   have h:=t _ _ hne.1
   subst hY
   (try simp only[EVz,seval,↓reduceIte,EV6,EV7,hne])
   (try simp only[EVz,seval,↓reduceIte,EV6,EV7,hne]at h)
   exact h
end
end Go.Av
