/-
  ENACT, M18: the units that an address means, by the program (2).
-/
import Derived.Test.YtjolkfjccojnnaaGreatDoorXM15toXM17
import Derived.Test.YtjolkfjccojnnaaGreatDoorXL38toXM9
import Derived.Test.YtjolkfjccojnnaaGreatDoorXM14toXAv31
namespace Go.Av
open Go Go.RowKit Go.Proofs List
set_option linter.unusedSimpArgs false
set_option linter.unusedVariables false
section
variable (G:Glob)
set_option maxHeartbeats 2000000 in
theorem f154 (u:U) (p:List Stp) (ht:u.Tame) (hN:u.flat.length<=1024) (hp:p.length<1000000):Pure G Tryz.prog 154 [.agg u.cs,.lst 2 (p.map Stp.cs)] (.lst 8 ((eu u p).map U.cs)):=by
 have hM:=f69 G p hp
 refine Pure.w c154 λR hR=>?_
 unfold s154 r154
 unfold eu at hR
 cases hok:cC p with
 |false=>
  rw[hok,if_pos rfl]at hR
  rw[hok]at hM
  (repeat' (first|(with_reducible (first|refine ae (λh=>?_) (λh=>?_)|refine ag (λh=>?_) (λh=>?_)|refine aa (λh=>?_) (λh=>?_))<;>(try simp only[Da,Db,Dc,Dw,De,Df,Dg,Dh]at h))|(with_reducible refine AI (by omega) ?_)|(with_reducible refine ab hM ?_)|simp only[EVz,seval,↓reduceIte,EV6,EV7,hne]|simp only[EVz,seval,↓reduceIte,EV6,EV7]|(with_reducible intro blk hblk;(try(have hnx:=hblk;simp only[EVK]at hnx;first|(have hne:=AI hnx hne)|(have hne:=hnx))))|(with_reducible refine ak ?_ ?_)|(with_reducible refine am ?_)|(exfalso;omega)))
  exact hR _ _ (Or.inl (Or.inr rfl))
 |true=>
  rw[hok]at hM hR
  simp only[Bool.true_eq_false,if_false]at hR
  by_cases h0:p=[]
  ·subst h0
   simp only[map_nil]at hM ⊢
   (repeat' (first|(with_reducible (first|refine ae (λh=>?_) (λh=>?_)|refine ag (λh=>?_) (λh=>?_)|refine aa (λh=>?_) (λh=>?_))<;>(try simp only[Da,Db,Dc,Dw,De,Df,Dg,Dh]at h))|(with_reducible refine AI (by omega) ?_)|(with_reducible refine ab hM ?_)|simp only[EVz,seval,↓reduceIte,EV6,EV7,hne]|simp only[EVz,seval,↓reduceIte,EV6,EV7]|(with_reducible intro blk hblk;(try(have hnx:=hblk;simp only[EVK]at hnx;first|(have hne:=AI hnx hne)|(have hne:=hnx))))|(with_reducible refine ak ?_ ?_)|(with_reducible refine am ?_)|(refine⟨[u.cs],rfl,(by simp[U.cs_len]),(by simp),?_⟩)|(exfalso;omega)))
   exact hR _ _ (Or.inl (Or.inr ⟨rfl,rfl⟩))
  ·obtain⟨s,r,hpe⟩:∃s r,p=s::r:=by cases p<;>simp_all
   have hR2:∀x σ,AVle x (.lst 8 ((r.foldl ay (cu u s)).map U.cs))->RET x σ R:=by
    rw[hpe]at hR
    exact hR
   clear hR
   have hlen:p.length=r.length+1:=by rw[hpe];simp
   have hg0:(p.map Stp.cs).getD 0 []=s.cs:=by rw[hpe];rfl
   have e0:decide ((p.length:Int)=0)=false:=decide_eq_false (by omega)
   have hd1:List.drop 1 (List.take p.length (p.map Stp.cs))=r.map Stp.cs:=by rw[take_of_length_le (by simp),hpe];rfl
   have hrl:(r.map Stp.cs).length=r.length:=by simp
   have hB:=f152 G s.kind s.label
   have hN2:u.flat.length*u.flat.length<=1048576:=Nat.mul_le_mul hN hN
   have hfl:=ir u s
   have hfl2:=ee (cu u s)
   cases hb:j5 s
   case' true=>
    have hb2:(decide (s.kind=0)&&decide (s.label=[]))=true:=hb
    rw[hb2]at hB
    have hf0:cu u s=[u]:=by unfold cu;rw[hb];rfl
    (repeat' (first|(with_reducible (first|refine ae (λh=>?_) (λh=>?_)|refine ag (λh=>?_) (λh=>?_)|refine aa (λh=>?_) (λh=>?_))<;>(try simp only[Da,Db,Dc,Dw,De,Df,Dg,Dh]at h))|(with_reducible refine AI (by omega) ?_)|(with_reducible first|refine ab hM ?_|refine ab hB ?_)|simp only[EVz,seval,↓reduceIte,EV6,EV7,hg0,e0,hd1,hne]|simp only[EVz,seval,↓reduceIte,EV6,EV7,hg0,e0,hd1]|(with_reducible intro blk hblk;(try(have hnx:=hblk;simp only[EVK]at hnx;first|(have hne:=AI hnx hne)|(have hne:=hnx))))|(with_reducible refine ak ?_ ?_)|(with_reducible refine am ?_)|(refine⟨[u.cs],rfl,(by simp[U.cs_len]),(by simp),?_⟩)|(exfalso;omega)))
    rename_i b3 _ _ _ b5 _ _ _
    have hWk:∀env,Weak G env [(blk,.tok 27 8),(b5,.cells 25 [.own (some blk) 27 8 [u.cs]]),(b3,.cells 28 [.lst 2 (p.map Stp.cs)])] env [(b5,.cells 25 [.lst 8 ((cu u s).map U.cs)])]:=λenv=>
     Weak.trans (Weak.sub (SubN.tail (SubN.cons (SubN.nil _) _) _)) (Weak.st ⟨rfl,rfl,⟨.inr ⟨rfl,by rw[hf0];rfl⟩,trivial⟩,trivial⟩)
    clear hblk hnx hne
   case' false=>
    have hb2:(decide (s.kind=0)&&decide (s.label=[]))=false:=hb
    rw[hb2]at hB
    have hf0:cu u s=u.flat.filter λx=>aJ x s:=by unfold cu;rw[hb];rfl
    (repeat' (first|(with_reducible (first|refine ae (λh=>?_) (λh=>?_)|refine ag (λh=>?_) (λh=>?_)|refine aa (λh=>?_) (λh=>?_))<;>(try simp only[Da,Db,Dc,Dw,De,Df,Dg,Dh]at h))|(with_reducible refine AI (by omega) ?_)|(with_reducible first|refine ab hM ?_|refine ab hB ?_)|simp only[EVz,seval,↓reduceIte,EV6,EV7,hg0,e0,hd1,hne]|simp only[EVz,seval,↓reduceIte,EV6,EV7,hg0,e0,hd1]|(with_reducible intro blk hblk;(try(have hnx:=hblk;simp only[EVK]at hnx;first|(have hne:=AI hnx hne)|(have hne:=hnx))))|(with_reducible refine ak ?_ ?_)|(with_reducible refine am ?_)|(exfalso;omega)))
    rename_i b3 _ _ _
    generalize hbe:blk=b5 at*
    refine az [(b3,_),(b5,_)] [] (f203 G (.func (.func 204) #[] #[.pointer (some ⟨b3,0,none⟩),.pointer (some ⟨b5,0,none⟩)]) u.flat.length (λpre σ=>St1 b3 b5 (s::r) s pre σ) ht.2 u ht (λx hx pre σ hσ hp=>⟨_,#[],#[_,_],rfl,by simpa[AV.ofValue,AV.ofOne]using f204 G b3 b5 s r x pre (by have:=ht.2;omega) σ hσ⟩) [] _ ⟨.nil,[],.inr ⟨rfl,rfl,rfl⟩,by rw[←hpe];rfl⟩ (by simp)).v (aB.rfl' _) (SubN.perm (List.Perm.swap _ _ _)) ?_
    rintro r' σ' hSt' hnd'
    obtain⟨v,κ,ho,rfl⟩:=hSt'
    rw[nil_append]at ho
    rw[←hpe]
    have q1:¬b3=b5:=λe=>hne.1 e.symm
    (repeat' (first|(with_reducible (first|refine ae (λh=>?_) (λh=>?_)|refine ag (λh=>?_) (λh=>?_)|refine aa (λh=>?_) (λh=>?_))<;>(try simp only[Da,Db,Dc,Dw,De,Df,Dg,Dh]at h))|(with_reducible refine AI (by omega) ?_)|simp only[EVz,seval,↓reduceIte,EV6,EV7,hd1,q1,hne]|simp only[EVz,seval,↓reduceIte,EV6,EV7,hd1,q1]|(with_reducible intro blk hblk;(try(have hnx:=hblk;simp only[EVK]at hnx;first|(have hne:=AI hnx hne)|(have hne:=hnx))))|(with_reducible refine ak ?_ ?_)|(with_reducible refine am ?_)|(exfalso;omega)))
    have hWk:∀env,Weak G env ((b3,.cells 28 [.lst 2 (p.map Stp.cs)])::(b5,.cells 25 [v])::κ) env [(b5,.cells 25 [.lst 8 ((cu u s).map U.cs)])]:=λenv=>by
     rw[hf0]
     rcases ho with ho|⟨ho,rfl,rfl⟩
     ·exact Weak.frz (cs:=[v]) (rest:=[]) (κ:=κ) ⟨.inr ⟨27,8,_,κ,ho,λq hq=>hq,rfl⟩,trivial⟩ (SubN.tail (SubN.refl _) _)
     ·rw[ho]
      exact Weak.trans (Weak.sub (SubN.tail (SubN.refl _) _)) (Weak.st ⟨rfl,rfl,⟨.inr rfl,trivial⟩,trivial⟩)
    clear hnd' hne hblk hnx
   all_goals
    refine Zq (ι:=List U) r (λi rr l=>r.foldl ay (cu u s)=rr.foldl ay l/\msr l<=1048576) (λi l=>[(5,.sc (.pointer (some ⟨b5,0,none⟩))),(33,.lst 2 (r.map Stp.cs)),(34,.int .i64 r.length),(35,.int .i64 i)]) (λi l=>[(b5,.cells 25 [.lst 8 (l.map U.cs)])]) (cu u s) ⟨rfl,by omega⟩ (hWk _) (by omega) (λi y rr l hok2 hx hw=>?_) (λl hok2 hn=>?_)
    ·have hll:=ee l
     clear hWk
     (repeat' (first|(with_reducible (first|refine ae (λh=>?_) (λh=>?_)|refine ag (λh=>?_) (λh=>?_)|refine aa (λh=>?_) (λh=>?_))<;>(try simp only[Da,Db,Dc,Dw,De,Df,Dg,Dh]at h))|(with_reducible refine AI (by omega) ?_)|simp only[EVz,seval,↓reduceIte,EV6,EV7,hx.yes,hx.le0,hx.lt',hx.row,hw,hx.get,hne]|simp only[EVz,seval,↓reduceIte,EV6,EV7,hx.yes,hx.le0,hx.lt',hx.row,hw,hx.get]|(with_reducible intro blk hblk;(try(have hnx:=hblk;simp only[EVK]at hnx;first|(have hne:=AI hnx hne)|(have hne:=hnx))))|(with_reducible refine ak ?_ ?_)|(with_reducible refine am ?_)|(exfalso;omega)))
     have q1:¬blk=b5:=hnx
     have q2:¬b5=blk:=λe=>q1 e.symm
     generalize hb7:blk=b7 at*
     clear hne hblk hnx
     obtain⟨κ,hκ⟩:∃κ:Store,κ=[(b7,.cells 62 [.int .i64 y.kind,.str y.label]),(b5,.cells 25 [.lst 8 (l.map U.cs)])]:=⟨_,rfl⟩
     have hndκ:(Store.keys κ).Nodup:=by rw[hκ];simp[Store.keys,q1]
     refine Zq (ι:=Option Nat) l (λj rl c=>∀b,c=some b->b∉Store.keys κ) (λj c=>[(5,.sc (.pointer (some ⟨b5,0,none⟩))),(7,.sc (.pointer (some ⟨b7,0,none⟩))),(8,.own c 27 8 ((ay (l.take j) y).map U.cs)),(33,.lst 2 (r.map Stp.cs)),(34,.int .i64 r.length),(35,.int .i64 i),(39,.lst 8 (l.map U.cs)),(40,.int .i64 l.length),(41,.int .i64 j)]) (λj c=>κ++tokS c 27 ((ay (l.take j) y).length*8)) none (by intro b h;cases h) (Weak.of (by simp[cQ,Env.get,AVle,aP,ay]) (by rw[hκ];exact SubN.refl _)) (by omega) (λj z rl c hok3 hz hwz=>?_) (λc hok3 hnz=>?_)
     ·have hsn:ay (l.take (j+1)) y=ay (l.take j) y++z.kids.filter λk=>aJ k y:=by rw[hz.take,ik]
      have hsl:(ay (l.take (j+1)) y).length<=1048576:=by
       have h1:=ee (ay (l.take (j+1)) y)
       have h2:=fQ y (l.take (j+1))
       have h3:msr l=msr (l.take (j+1))+msr (l.drop (j+1)):=by rw[←fZ,take_append_drop]
       omega
      have hzk:z.kids.length<=1048576:=by
       have h1:=ee z.kids
       have h2:=gX z.kids
       have h3:z.flat.length=1+(U.flats z.kids).length:=by rw[U.flat_eq,length_cons];omega
       have h4:msr l=msr (l.take (j+1))+msr (l.drop (j+1)):=by rw[←fZ,take_append_drop]
       have h5:msr (l.take (j+1))=msr (l.take j)+z.flat.length:=by rw[hz.take,fZ,cR,j7];omega
       omega
      rw[hsn,length_append]at hsl
      rw[hκ]
      (repeat' (first|(with_reducible (first|refine ae (λh=>?_) (λh=>?_)|refine ag (λh=>?_) (λh=>?_)|refine aa (λh=>?_) (λh=>?_))<;>(try simp only[Da,Db,Dc,Dw,De,Df,Dg,Dh]at h))|(with_reducible refine AI (by omega) ?_)|simp only[EVz,seval,↓reduceIte,EV6,EV7,hz.yes,hz.le0,hz.lt',hz.row,hwz,hz.get,q1,q2,hne]|simp only[EVz,seval,↓reduceIte,EV6,EV7,hz.yes,hz.le0,hz.lt',hz.row,hwz,hz.get,q1,q2]|(with_reducible intro blk hblk;(try(have hnx:=hblk;simp only[EVK]at hnx;first|(have hne:=AI hnx hne)|(have hne:=hnx))))|(with_reducible refine ak ?_ ?_)|(with_reducible refine am ?_)|(exfalso;omega)))
      have hZ0:=lZ l y z.kids j
      have hZn:zPre l y z.kids j z.kids.length=ay (l.take (j+1)) y:=by rw[hsn,ml]
      refine Zq (ι:=Option Nat) z.kids (λk rk c=>∀b,c=some b->b∉Store.keys κ) (λk c=>[(5,.sc (.pointer (some ⟨b5,0,none⟩))),(7,.sc (.pointer (some ⟨b7,0,none⟩))),(8,.own c 27 8 ((zPre l y z.kids j k).map U.cs)),(33,.lst 2 (r.map Stp.cs)),(34,.int .i64 r.length),(35,.int .i64 i),(39,.lst 8 (l.map U.cs)),(40,.int .i64 l.length),(41,.int .i64 j),(46,.lst 8 (z.kids.map U.cs)),(47,.int .i64 z.kids.length),(48,.int .i64 k)]) (λk c=>κ++tokS c 27 ((zPre l y z.kids j k).length*8)) c hok3 (Weak.of (by simp[cQ,Env.get,AVle,aP,hZ0]) (by rw[hκ];simp only[hZ0];exact SubN.tail (SubN.refl _) _)) (Nat.lt_of_le_of_lt hzk (by decide)) (λk q rk c hok4 hq hwq=>?_) (λc hok4 hnq=>?_)
      ·have hA:=f205 G q y
       have hfk:((z.kids.take k).filter λk=>aJ k y).length<=k:=Nat.le_trans (length_filter_le _ _) (by rw[length_take];omega)
       have hkl:=hq.lt
       have hA1:(ay (l.take j) y).length<=1048576:=Nat.le_trans (Nat.le_add_right _ _) hsl
       have hB1:((z.kids.take k).filter λk=>aJ k y).length<=1048576:=Nat.le_trans hfk (Nat.le_trans (Nat.le_of_lt hkl) hzk)
       have hZl:(zPre l y z.kids j k).length<=2097152:=by
        rw[oL]
        exact Nat.add_le_add hA1 hB1
       have hcc:aJ q y=true\/aJ q y=false:=by
        cases aJ q y
        ·exact .inr rfl
        ·exact .inl rfl
       rcases hcc with hc|hc
       ·have ef:zPre l y z.kids j (k+1)=zPre l y z.kids j k++[q]:=oK hq hc
        rw[hc]at hA
        clear hfl hfl2 hN2 hsl hzk hsn hll hZ0 hZn hN hfk hp hf0 hA1 hB1
        rw[hκ]
        (repeat' (first|(with_reducible (first|refine ae (λh=>?_) (λh=>?_)|refine ag (λh=>?_) (λh=>?_)|refine aa (λh=>?_) (λh=>?_))<;>(try simp only[Da,Db,Dc,Dw,De,Df,Dg,Dh]at h))|(with_reducible refine AI (by omega) ?_)|(with_reducible refine ab hA ?_)|simp only[EVz,seval,↓reduceIte,EV6,EV7,hq.yes,hq.le0,hq.lt',hq.row,hwq,hq.get,q1,q2,hne]|simp only[EVz,seval,↓reduceIte,EV6,EV7,hq.yes,hq.le0,hq.lt',hq.row,hwq,hq.get,q1,q2]|(with_reducible intro blk hblk;(try(have hnx:=hblk;simp only[EVK]at hnx;first|(have hne:=AI hnx hne)|(have hne:=hnx))))|(with_reducible refine ak ?_ ?_)|(with_reducible refine am ?_)|(exfalso;omega)))
        rename_i b12 hb12 _ _
        refine⟨[q.cs],rfl,by simp[U.cs_len],by simp,?_⟩
        refine lX (sz:=8) (bytes:=120) (rows:=(zPre l y z.kids j k).map U.cs) (ys:=[q.cs]) (m:=(zPre l y z.kids j k).length*8) [(b7,.cells 62 [.int .i64 y.kind,.str y.label]),(b5,.cells 25 [.lst 8 (l.map U.cs)])] hb12 hblk (hκ ▸ hok4) (by rw[length_map]) (hκ ▸ hndκ) (by rw[length_map];simp;omega) (λgn hgn=>?_)
        refine af hq gn hgn ?_
        rw[ef,map_append,length_append]
        simp only[length_map,map_cons,map_nil,length_append,length_cons,length_nil]
        exact Weak.rfl' _ _
       ·have ef:zPre l y z.kids j (k+1)=zPre l y z.kids j k:=oF hq hc
        rw[hc]at hA
        clear hfl hfl2 hN2 hsl hzk hsn hll hZ0 hZn hN hfk hp hf0 hA1 hB1
        rw[hκ]
        (repeat' (first|(with_reducible (first|refine ae (λh=>?_) (λh=>?_)|refine ag (λh=>?_) (λh=>?_)|refine aa (λh=>?_) (λh=>?_))<;>(try simp only[Da,Db,Dc,Dw,De,Df,Dg,Dh]at h))|(with_reducible refine AI (by omega) ?_)|(with_reducible refine ab hA ?_)|simp only[EVz,seval,↓reduceIte,EV6,EV7,hq.yes,hq.le0,hq.lt',hq.row,hwq,hq.get,q1,q2,hne]|simp only[EVz,seval,↓reduceIte,EV6,EV7,hq.yes,hq.le0,hq.lt',hq.row,hwq,hq.get,q1,q2]|(with_reducible intro blk hblk;(try(have hnx:=hblk;simp only[EVK]at hnx;first|(have hne:=AI hnx hne)|(have hne:=hnx))))|(with_reducible refine ak ?_ ?_)|(with_reducible refine am ?_)|(exfalso;omega)))
        refine af hq c (hκ ▸ hok4) ?_
        rw[ef]
        exact Weak.sub (SubN.tail (SubN.refl _) _)
      ·(try simp only[EVz,seval,↓reduceIte,EV6,EV7,hnq,hwz])
       refine af hz c (hκ ▸ hok4) ?_
       rw[hZn,hκ]
       exact Weak.rfl' _ _
     ·rw[hκ]
      (repeat' (first|(with_reducible (first|refine ae (λh=>?_) (λh=>?_)|refine ag (λh=>?_) (λh=>?_)|refine aa (λh=>?_) (λh=>?_))<;>(try simp only[Da,Db,Dc,Dw,De,Df,Dg,Dh]at h))|(with_reducible refine AI (by omega) ?_)|simp only[EVz,seval,↓reduceIte,EV6,EV7,hnz,hw,q1,q2,hne]|simp only[EVz,seval,↓reduceIte,EV6,EV7,hnz,hw,q1,q2]|(with_reducible intro blk hblk;(try(have hnx:=hblk;simp only[EVK]at hnx;first|(have hne:=AI hnx hne)|(have hne:=hnx))))|(with_reducible refine ak ?_ ?_)|(with_reducible refine am ?_)|(exfalso;omega)))
      refine af hx (ay l y) ⟨hok2.1,Nat.le_trans (fQ y l) hok2.2⟩ ?_
      rw[take_length]
      refine Weak.trans (Weak.sub (σ':=[(b5,.cells 25 [.own c 27 8 ((ay l y).map U.cs)])]) (SubN.tail (SubN.cons (SubN.nil _) _) _)) (Weak.st ⟨rfl,rfl,⟨.inr ⟨rfl,rfl⟩,trivial⟩,trivial⟩)
    ·(repeat' (first|(with_reducible (first|refine ae (λh=>?_) (λh=>?_)|refine ag (λh=>?_) (λh=>?_)|refine aa (λh=>?_) (λh=>?_))<;>(try simp only[Da,Db,Dc,Dw,De,Df,Dg,Dh]at h))|(with_reducible refine AI (by omega) ?_)|simp only[EVz,seval,↓reduceIte,EV6,EV7,hn,hne]|simp only[EVz,seval,↓reduceIte,EV6,EV7,hn]|(with_reducible intro blk hblk;(try(have hnx:=hblk;simp only[EVK]at hnx;first|(have hne:=AI hnx hne)|(have hne:=hnx))))|(with_reducible refine ak ?_ ?_)|(with_reducible refine am ?_)|(exfalso;omega)))
     exact hR2 _ _ (Or.inl (Or.inl (by rw[hok2.1];rfl)))
theorem f72 (u:U) (p:List Stp) (ht:u.Tame) (hN:u.flat.length<=1024) (hp:p.length<1000000):Pure G Tryz.prog 72 [.agg u.cs,.lst 2 (p.map Stp.cs)] (.lst 3 (((eu u p).map U.id).map Idd.cs)):=by
 have hF:=f154 G u p ht hN hp
 have hl:=jG u p
 have hN2:u.flat.length*u.flat.length<=1048576:=Nat.mul_le_mul hN hN
 obtain⟨l,hle⟩:∃l,eu u p=l:=⟨_,rfl⟩
 rw[hle]at hF hl ⊢
 refine Pure.w c72 λR hR=>?_
 unfold s72 r72
 have hl2:l.length<=1048576:=Nat.le_trans hl hN2
 clear hl hN2 hN
 (repeat' (first|(with_reducible (first|refine ae (λh=>?_) (λh=>?_)|refine ag (λh=>?_) (λh=>?_)|refine aa (λh=>?_) (λh=>?_))<;>(try simp only[Da,Db,Dc,Dw,De,Df,Dg,Dh]at h))|(with_reducible refine AI (by omega) ?_)|(with_reducible refine ab hF ?_)|simp only[EVz,seval,↓reduceIte,EV6,EV7,hne]|simp only[EVz,seval,↓reduceIte,EV6,EV7]|(with_reducible intro blk hblk;(try(have hnx:=hblk;simp only[EVK]at hnx;first|(have hne:=AI hnx hne)|(have hne:=hnx))))|(with_reducible refine ak ?_ ?_)|(with_reducible refine am ?_)|(exfalso;omega)))
 refine Zq (ι:=Option Nat) l (λi r c=>True) (λi c=>[(5,.own c 23 3 ((l.take i).map λx=>x.id.cs)),(10,.lst 8 (l.map U.cs)),(11,.int .i64 l.length),(12,.int .i64 i)]) (λi c=>tokS c 23 (i*3)) none trivial (Weak.of (by simp[cQ,Env.get,AVle,aP]) (SubN.refl _)) (by omega) (λi x r c hok hx hw=>?_) (λc hok hn=>?_)
 ·have hi:=hx.lt
  (repeat' (first|(with_reducible (first|refine ae (λh=>?_) (λh=>?_)|refine ag (λh=>?_) (λh=>?_)|refine aa (λh=>?_) (λh=>?_))<;>(try simp only[Da,Db,Dc,Dw,De,Df,Dg,Dh]at h))|(with_reducible refine AI (by omega) ?_)|simp only[EVz,seval,↓reduceIte,EV6,EV7,hx.yes,hx.le0,hx.lt',hx.row,hw,hx.get,hne]|simp only[EVz,seval,↓reduceIte,EV6,EV7,hx.yes,hx.le0,hx.lt',hx.row,hw,hx.get]|(with_reducible intro blk hblk;(try(have hnx:=hblk;simp only[EVK]at hnx;first|(have hne:=AI hnx hne)|(have hne:=hnx))))|(with_reducible refine ak ?_ ?_)|(with_reducible refine am ?_)|(exfalso;omega)))
  refine cV (n:=i) (m':=(i+1)*3) (by first|exact bI|exact bT (by assumption)|exact qO (by assumption) (by assumption)) (by rw[length_map,length_take];omega) rfl rfl rfl (by assumption) (by omega) (λgn=>?_)
  refine af hx gn trivial ?_
  simp only[hx.take,map_append,map_cons,map_nil]
  exact Weak.rfl' _ _
 ·(repeat' (first|(with_reducible (first|refine ae (λh=>?_) (λh=>?_)|refine ag (λh=>?_) (λh=>?_)|refine aa (λh=>?_) (λh=>?_))<;>(try simp only[Da,Db,Dc,Dw,De,Df,Dg,Dh]at h))|(with_reducible refine AI (by omega) ?_)|simp only[EVz,seval,↓reduceIte,EV6,EV7,hn,hne]|simp only[EVz,seval,↓reduceIte,EV6,EV7,hn]|(with_reducible intro blk hblk;(try(have hnx:=hblk;simp only[EVK]at hnx;first|(have hne:=AI hnx hne)|(have hne:=hnx))))|(with_reducible refine ak ?_ ?_)|(with_reducible refine am ?_)|(exfalso;omega)))
  exact hR _ _ (Or.inl (Or.inr ⟨rfl,by rw[take_length,map_map];rfl⟩))
theorem f36 (u:U) (p:List Stp) (ht:u.Tame) (hN:u.flat.length<=1024) (hp:p.length<1000000):Pure G Tryz.prog 36 [.agg u.cs,.lst 2 (p.map Stp.cs)] (gx u p):=by
 have hU:=f72 G u p ht hN hp
 refine Pure.w c36 λR hR=>?_
 unfold s36 r36
 unfold gx one at hR
 have hl:(eu u p).length<=1048576:=Nat.le_trans (jG u p) (Nat.mul_le_mul hN hN)
 generalize eu u p=l at*
 rcases l with _|⟨x,_|⟨y,l⟩⟩
 ·simp only[map_nil]at hU hR
  (repeat' (first|(with_reducible (first|refine ae (λh=>?_) (λh=>?_)|refine ag (λh=>?_) (λh=>?_)|refine aa (λh=>?_) (λh=>?_))<;>(try simp only[Da,Db,Dc,Dw,De,Df,Dg,Dh]at h))|(with_reducible refine AI (by omega) ?_)|(with_reducible refine ab hU ?_)|simp only[EVz,seval,↓reduceIte,EV6,EV7,hne]|simp only[EVz,seval,↓reduceIte,EV6,EV7]|(with_reducible intro blk hblk;(try(have hnx:=hblk;simp only[EVK]at hnx;first|(have hne:=AI hnx hne)|(have hne:=hnx))))|(with_reducible refine ak ?_ ?_)|(with_reducible refine am ?_)|(exfalso;omega)))
  all_goals exact hR _ _ (Or.inl (Or.inl rfl))
 ·simp only[map_cons,map_nil,Idd.cs]at hU hR
  (repeat' (first|(with_reducible (first|refine ae (λh=>?_) (λh=>?_)|refine ag (λh=>?_) (λh=>?_)|refine aa (λh=>?_) (λh=>?_))<;>(try simp only[Da,Db,Dc,Dw,De,Df,Dg,Dh]at h))|(with_reducible refine AI (by omega) ?_)|(with_reducible refine ab hU ?_)|simp only[EVz,seval,↓reduceIte,EV6,EV7,hne]|simp only[EVz,seval,↓reduceIte,EV6,EV7]|(with_reducible intro blk hblk;(try(have hnx:=hblk;simp only[EVK]at hnx;first|(have hne:=AI hnx hne)|(have hne:=hnx))))|(with_reducible refine ak ?_ ?_)|(with_reducible refine am ?_)|(exfalso;omega)))
  all_goals first|exact hR _ _ (Or.inl (Or.inl rfl))|(exfalso;omega)
 ·simp only[map_cons,Idd.cs]at hU hR
  (repeat' (first|(with_reducible (first|refine ae (λh=>?_) (λh=>?_)|refine ag (λh=>?_) (λh=>?_)|refine aa (λh=>?_) (λh=>?_))<;>(try simp only[Da,Db,Dc,Dw,De,Df,Dg,Dh]at h))|(with_reducible refine AI (by omega) ?_)|(with_reducible refine ab hU ?_)|simp only[EVz,seval,↓reduceIte,EV6,EV7,hne]|simp only[EVz,seval,↓reduceIte,EV6,EV7]|(with_reducible intro blk hblk;(try(have hnx:=hblk;simp only[EVK]at hnx;first|(have hne:=AI hnx hne)|(have hne:=hnx))))|(with_reducible refine ak ?_ ?_)|(with_reducible refine am ?_)|(exfalso;omega)))
  all_goals first|exact hR _ _ (Or.inl (Or.inl rfl))|(exfalso;omega)
end
section
variable (G:Glob)
set_option maxHeartbeats 2000000 in
theorem f170 (bs:Nat) (a b:Int):∀(u:U),u.Short->∀n m:Int,0<=n->0<=m->n+1+u.flat.length<=100000000000->m+u.wt<=100000000000->
  aj G Tryz.prog 170 [.sc (.pointer (some ⟨bs,0,none⟩)),.agg u.cs] [(bs,.cells 161 (stp4 a b n m))] λr σ'=>r= .agg (U.stamp a b u (n+1) m).1.cs/\
   σ'=[(bs,.cells 161 (stp4 a b ((U.stamp a b u (n+1) m).2.1-1) (U.stamp a b u (n+1) m).2.2))]:=by
 refine U.ind λu ih hs n m hn0 hm0 hnb hmb=>?_
 have hkl:=hs.1.kids
 have hu:=hs.2 u u.flat_self
 rw[U.flat_eq,length_cons]at hnb
 rw[U.wt_eq]at hmb
 have hR1:=f220 G bs u.head a b (n+1) m hu.2.1 hm0 (by omega)
 have hR2:=f220 G bs u.words a b (n+1) (m+u.head.length) hu.2.2.1 (by omega) (by omega)
 have w1:IntKind.i64.wrap (n+1)=n+1:=au (by omega) (by omega)
 obtain⟨w,hw⟩:∃w,U.stamp a b u (n+1) m=w:=⟨_,rfl⟩
 rw[hw]
 refine aj.freezeK (R1:=λσ'=>σ'=[(bs,.cells 161 (stp4 a b (w.2.1-1) w.2.2))]) ?_
 refine aj.w c170 ?_
 unfold s170 r170
 rw[U.stamp_eq]at hw
 have hfit:0+u.kids.length*8<=(List.replicate u.kids.length zU).flatten.length:=by rw[cn];simp[zU]
 have hfl:(u.kids.map U.cs).flatten.length=u.kids.length*8:=by rw[ax _ (jr _),length_map]
 have hspl:aH (List.replicate u.kids.length zU).flatten 0 ((u.kids.map U.cs).take u.kids.length).flatten=(u.kids.map U.cs).flatten:=by
  rw[take_of_length_le (by simp),aV _ _ _ (by rw[hfl];exact hfit),drop_eq_nil_of_le (by rw[hfl,cn];simp[zU])]
  simp
 obtain⟨n1,hn1⟩:∃n1,n+1+1=n1:=⟨_,rfl⟩
 obtain⟨m1,hm1⟩:∃m1,m+(u.head.length:Int)+(u.words.length:Int)=m1:=⟨_,rfl⟩
 rw[hn1,hm1]at hw
 obtain⟨S,hS⟩:∃S:Nat->List U×Int×Int,S=λi=>U.stamps a b (u.kids.take i) n1 m1:=⟨_,rfl⟩
 have hSn:∀i,(S i).2.1=n1+(U.flats (u.kids.take i)).length/\(S i).2.2=m1+U.wts (u.kids.take i)/\(S i).1.length=(u.kids.take i).length:=λi=>by rw[hS];exact gA a b _ n1 m1
 obtain⟨L,hL⟩:∃L:Nat->List (List AV),L=λi=>((S i).1++u.kids.drop i).map U.cs:=⟨_,rfl⟩
 have hS0:S 0=([],n1,m1):=by rw[hS];simp only[take_zero,U.stamps_nil]
 have hL0:(L 0).flatten=(u.kids.map U.cs).flatten:=by rw[hL];simp only[hS0,nil_append,drop_zero]
 have hst0:stp4 a b ((S 0).2.1-1) (S 0).2.2=stp4 a b (n+1) (m+(u.head.length:Int)+(u.words.length:Int)):=by
  rw[hS0]
  show stp4 a b (n1-1) m1=_
  rw[hm1,←hn1]
  congr 1
  omega
 have hLr:∀i,∀r∈L i,r.length=8:=λi=>by rw[hL];exact jr _
 have hLl:∀i,i<=u.kids.length->(L i).length=u.kids.length:=λi hi=>by
  rw[hL]
  simp only[length_map,length_append,length_drop,(hSn i).2.2,length_take]
  omega
 have hLf:∀i,i<=u.kids.length->(L i).flatten.length=u.kids.length*8:=λi hi=>by rw[ax _ (hLr i),hLl i hi]
 rw[U.cs_eq u]
 (repeat' (first|simp only[EVz,seval,↓reduceIte,EV6,EV7,w1,hne]|simp only[EVz,seval,↓reduceIte,EV6,EV7,w1]|(with_reducible intro blk hblk;(try(have hnx:=hblk;simp only[EVK]at hnx;first|(have hne:=AI hnx hne)|(have hne:=hnx))))|(with_reducible refine ak ?_ ?_)|(with_reducible refine am ?_)|(refine az [(bs,_)] [(_,_),(_,_)] hR1.v (aB.rfl' _) (SubN.perm (perm_append_comm (l₁:=[_]) (l₂:=[_,_]))) (λr1 σ1 h1 hne=>?_))|(obtain⟨rfl,rfl⟩:=h1)|(simp[Store.keys]at hne)|(refine az [(bs,_)] [(_,_),(_,_)] hR2.v (aB.rfl' _) (SubN.refl _) (λr2 σ2 h1 hne=>?_))|(refine jq (elem:=27) (c:=u.kids.length) (sz:=8) (bytes:=120) (zr:=zU) (z:=.agg #[.int .i64 0,.int .i64 0,.int .i64 0,.int .i64 0,.string .empty,.slice none 0 0,.slice none 0 0,.slice none 0 0]) rfl (by kernel_rfl) (by kernel_rfl) rfl (by omega) (by decide) (by intro τ w;simp[zU,RepL,Rep,Value.cells];rfl) (by omega) (by omega) ?_)|(refine Zw (elem:=27) (sz:=8) (ys:=u.kids.map U.cs) u.kids.length (u.kids.map U.cs).flatten (by kernel_rfl) (by kernel_rfl) rfl (if_pos rfl) (.inl ⟨rfl,rfl⟩) (by simp) hfit hspl ?_)|fail))
 all_goals
  rename_i b3 _ _ _ b4 _ _ _ _ _
  have q1:¬bs=blk:=λe=>hne.1.1 e.symm
  have q2:¬b4=blk:=λe=>hne.1.2.1 e.symm
  have q3:¬b3=blk:=λe=>hne.1.2.2 e.symm
  refine Zq u.kids (λi r (c:Unit)=>True) (λi c=>[(0,.sc (.pointer (some ⟨bs,0,none⟩))),(3,.sc (.pointer (some ⟨b3,0,none⟩))),(4,.sc (.pointer (some ⟨b4,0,none⟩))),(5,.sc (.slice (some ⟨blk,0,none⟩) u.kids.length u.kids.length)),(47,.int .i64 u.kids.length),(48,.int .i64 i)])
   (λi c=>[(blk,.cells 27 (L i).flatten),(bs,.cells 161 (stp4 a b ((S i).2.1-1) (S i).2.2)),(b4,.cells 27 zU),(b3,.cells 27 [.int .i64 a,.int .i64 b,.int .i64 (n+1),.int .i64 u.kind,.str u.label,.lst 4 ((dP a b (u.head.map Wd.text) m).map Wd.cs),.lst 4 ((dP a b (u.words.map Wd.text) (m+u.head.length)).map Wd.cs),.lst 8 (u.kids.map U.cs)])]) () trivial (by rw[hL0,hst0];exact Weak.rfl' _ _) (by omega) (λi k r c _ hx hw=>?_) (λc _ hn=>?_)
  ·obtain⟨s1,s2,s3⟩:=hSn i
   obtain⟨t1,t2,t3⟩:=hSn (i+1)
   have hil:=hx.lt
   have hfl:(U.flats (u.kids.take (i+1))).length<=(U.flats u.kids).length:=by
    conv=>rhs;rw[←take_append_drop (i+1) u.kids,cv,length_append]
    omega
   have hwl:U.wts (u.kids.take (i+1))<=U.wts u.kids:=by
    conv=>rhs;rw[←take_append_drop (i+1) u.kids,U.wts_app]
    omega
   have hfl2:(U.flats (u.kids.take (i+1))).length=(U.flats (u.kids.take i)).length+k.flat.length:=by rw[hx.take,cv,aD,bt];simp
   have hwl2:U.wts (u.kids.take (i+1))=U.wts (u.kids.take i)+k.wt:=by rw[hx.take,U.wts_app,U.wts_cons,U.wts_nil];simp
   have hih:=ih k hx.mem (hs.kid hx.mem) ((S i).2.1-1) (S i).2.2 (by omega) (by omega) (by omega) (by omega)
   rw[show(S i).2.1-1+1=(S i).2.1 by omega]at hih
   have hSs:S (i+1)=((S i).1++[(U.stamp a b k (S i).2.1 (S i).2.2).1],(U.stamp a b k (S i).2.1 (S i).2.2).2):=by
    simp only[hS]
    rw[hx.take,iL]
   have hgk:(L i)[i]? =some k.cs:=by
    rw[hL]
    simp only[getElem?_map]
    rw[getElem?_append_right (by rw[s3,length_take];omega),s3,length_take,Nat.min_eq_left (by omega),Nat.sub_self,getElem?_drop,Nat.add_zero,getElem?_eq_getElem hil,←hx.get k]
    simp[hil]
   have hgt:((L i).flatten.drop (0+i*8)).take 8=k.cs:=by simpa using ny (pad:=[]) (hLr i) hgk
   have hle8:8<=((L i).flatten.drop (0+i*8)).length:=by rw[length_drop,hLf i (by omega)];omega
   have hLs:L (i+1)=(L i).set i (U.stamp a b k (S i).2.1 (S i).2.2).1.cs:=by
    have h3:u.kids.drop i=k::u.kids.drop (i+1):=by
     rw[drop_eq_getElem_cons hil]
     congr 1
     simpa[hil]using hx.get k
    have htl:(S i).1.length=i:=by rw[s3,length_take];omega
    rw[hL]
    simp only[hSs]
    rw[h3]
    simp only[map_append,map_cons,map_nil]
    rw[set_append_right _ _ (by simp[htl])]
    simp[htl]
   have hset:aH (L i).flatten (0+i*8) (U.stamp a b k (S i).2.1 (S i).2.2).1.cs=(L (i+1)).flatten:=by
    rw[hLs]
    rw[Nat.zero_add]
    simpa using nr (pad:=[]) (hLr i) (by rw[hLl i (by omega)];omega) (U.cs_len _)
   have hlf:=hLf i (by omega)
   (repeat' (first|(with_reducible refine AI (by omega) ?_)|simp only[EVz,seval,↓reduceIte,EV6,EV7,hx.yes,hx.le0,hx.lt',hx.get,hw,hgt,q1,q2,q3,hset,hne]|(refine az [(bs,_)] [(blk,_),(b4,_),(b3,_)] hih.v (aB.rfl' _) (SubN.perm (List.Perm.swap _ _ _)) (λr1 σ1 h1 hne2=>?_))|(obtain⟨rfl,rfl⟩:=h1)|fail))
   all_goals
    refine af hx () trivial ?_
    rw[hSs]
    exact Weak.sub (SubN.perm (List.Perm.swap _ _ _))
  ·have hnS:S u.kids.length=U.stamps a b u.kids n1 m1:=by simp only[hS];rw[take_length]
   have hLn:L u.kids.length=(U.stamps a b u.kids n1 m1).1.map U.cs:=by rw[hL];simp only[hnS,drop_length,append_nil]
   have hkn:(U.stamps a b u.kids n1 m1).1.length=u.kids.length:=(gA a b u.kids n1 m1).2.2
   have p1:¬blk=b4:=hne.1.2.1
   have p2:¬blk=b3:=hne.1.2.2
   have p3:¬bs=b4:=hne.2.1.1
   have p4:¬bs=b3:=hne.2.1.2
   have p5:¬b4=b3:=hne.2.2
   (repeat' (simp only[EVz,seval,↓reduceIte,EV6,EV7,hn,q1,q2,q3,p1,p2,p3,p4,p5,hne]))
   refine RET.mk' (σ':=[(blk,.cells 27 (L u.kids.length).flatten)]++[(bs,.cells 161 (stp4 a b ((S u.kids.length).2.1-1) (S u.kids.length).2.2))]) (SubN.left (σ:=[_,_]) (τ:=[_,_])) ⟨_,_,_,rfl,?_,rfl,?_⟩
   ·rw[←hw,U.cs_eq]
    exact⟨.inl rfl,.inl rfl,.inl rfl,.inl rfl,.inl rfl,.inl rfl,.inl rfl,.inr ⟨27,8,L u.kids.length,_,bR.mk0 (hLl _ (Nat.le_refl _)).symm (by rw[hLl _ (Nat.le_refl _)];unfold maxLen;omega) (hLr _),λq hq=>hq,by rw[hLn]⟩,trivial⟩
   ·rw[hnS,←hw]
theorem f106 (u:U) (a b:Int) (hs:u.Short) (hw:u.wt<=90000000000):Pure G Tryz.prog 106 [.agg u.cs,.int .i64 a,.int .i64 b] (.agg (l6 u a b).cs):=by
 have hc:=hs.1.2
 refine Pure.w c106 λR hR=>?_
 unfold s106 r106
 (repeat' (first|simp only[EVz,seval,↓reduceIte,EV6,EV7,hne]|simp only[EVz,seval,↓reduceIte,EV6,EV7]|(with_reducible intro blk hblk;(try(have hnx:=hblk;simp only[EVK]at hnx;first|(have hne:=AI hnx hne)|(have hne:=hnx))))|(refine az [(_,_)] [(_,_)] (f170 G _ a b u hs 0 0 (by omega) (by omega) (by omega) (by omega)).v (aB.rfl' _) (SubN.refl _) (λr1 σ1 h1 hne=>?_))|(obtain⟨rfl,rfl⟩:=h1)|(simp[Store.keys]at hne)|fail))
 exact RET.eq hR rfl
end
end Go.Av
