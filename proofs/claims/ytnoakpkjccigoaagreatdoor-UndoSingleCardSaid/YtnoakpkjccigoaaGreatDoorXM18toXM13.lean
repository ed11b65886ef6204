/-
  ENACT, M18: the units that an address means, by the program (2).
-/
import Derived.Test.YtnoakpkjccigoaaGreatDoorXM15toXM17
import Derived.Test.YtnoakpkjccigoaaGreatDoorXM4toXE16
namespace Go.Av
open Go Go.RowKit Go.Proofs List
set_option linter.unusedSimpArgs false
set_option linter.unusedVariables false
section
variable (G:Glob)
set_option maxHeartbeats 2000000 in
theorem f143 (u:U) (p:List Stp) (ht:u.Tame) (hN:u.flat.length<=1024) (hp:p.length<1000000):Pure G Tryz.prog 143 [.agg u.cs,.lst 2 (p.map Stp.cs)] (.lst 8 ((fY u p).map U.cs)):=by
 have hM:=f100 G p hp
 refine Pure.w c143 λR hR=>?_
 unfold s143 r143
 unfold fY at hR
 cases hok:dU p with
 |false=>
  rw[hok,if_pos rfl]at hR
  rw[hok]at hM
  (repeat' (first|(with_reducible (first|refine ab (λh=>?_) (λh=>?_)|refine ai (λh=>?_) (λh=>?_)|refine aj (λh=>?_) (λh=>?_))<;>(try simp only[Da,Db,Dc,Dw,De,Df,Dg,Dh]at h))|(with_reducible refine AI (by omega) ?_)|(with_reducible refine aa hM ?_)|simp only[EVz,seval,↓reduceIte,EV6,EV7,hne]|simp only[EVz,seval,↓reduceIte,EV6,EV7]|(with_reducible intro blk hblk;(try(have hnx:=hblk;simp only[EVK]at hnx;first|(have hne:=AI hnx hne)|(have hne:=hnx))))|(with_reducible refine ae ?_ ?_)|(with_reducible refine af ?_)|(exfalso;omega)))
  exact hR _ _ (Or.inl (Or.inr rfl))
 |true=>
  rw[hok]at hM hR
  simp only[Bool.true_eq_false,if_false]at hR
  by_cases h0:p=[]
  ·subst h0
   simp only[map_nil]at hM ⊢
   (repeat' (first|(with_reducible (first|refine ab (λh=>?_) (λh=>?_)|refine ai (λh=>?_) (λh=>?_)|refine aj (λh=>?_) (λh=>?_))<;>(try simp only[Da,Db,Dc,Dw,De,Df,Dg,Dh]at h))|(with_reducible refine AI (by omega) ?_)|(with_reducible refine aa hM ?_)|simp only[EVz,seval,↓reduceIte,EV6,EV7,hne]|simp only[EVz,seval,↓reduceIte,EV6,EV7]|(with_reducible intro blk hblk;(try(have hnx:=hblk;simp only[EVK]at hnx;first|(have hne:=AI hnx hne)|(have hne:=hnx))))|(with_reducible refine ae ?_ ?_)|(with_reducible refine af ?_)|(refine⟨[u.cs],rfl,(by simp[U.cs_len]),(by simp),?_⟩)|(exfalso;omega)))
   exact hR _ _ (Or.inl (Or.inr ⟨rfl,rfl⟩))
  ·obtain⟨s,r,hpe⟩:∃s r,p=s::r:=by cases p<;>simp_all
   have hR2:∀x σ,AVle x (.lst 8 ((r.foldl aK (dV u s)).map U.cs))->RET x σ R:=by
    rw[hpe]at hR
    exact hR
   clear hR
   have hlen:p.length=r.length+1:=by rw[hpe];simp
   have hg0:(p.map Stp.cs).getD 0 []=s.cs:=by rw[hpe];rfl
   have e0:decide ((p.length:Int)=0)=false:=decide_eq_false (by omega)
   have hd1:List.drop 1 (List.take p.length (p.map Stp.cs))=r.map Stp.cs:=by rw[take_of_length_le (by simp),hpe];rfl
   have hrl:(r.map Stp.cs).length=r.length:=by simp
   have hB:=f189 G s.kind s.label
   have hN2:u.flat.length*u.flat.length<=1048576:=Nat.mul_le_mul hN hN
   have hfl:=j6 u s
   have hfl2:=gg (dV u s)
   cases hb:mF s
   case' true=>
    have hb2:(decide (s.kind=0)&&decide (s.label=[]))=true:=hb
    rw[hb2]at hB
    have hf0:dV u s=[u]:=by unfold dV;rw[hb];rfl
    (repeat' (first|(with_reducible (first|refine ab (λh=>?_) (λh=>?_)|refine ai (λh=>?_) (λh=>?_)|refine aj (λh=>?_) (λh=>?_))<;>(try simp only[Da,Db,Dc,Dw,De,Df,Dg,Dh]at h))|(with_reducible refine AI (by omega) ?_)|(with_reducible first|refine aa hM ?_|refine aa hB ?_)|simp only[EVz,seval,↓reduceIte,EV6,EV7,hg0,e0,hd1,hne]|simp only[EVz,seval,↓reduceIte,EV6,EV7,hg0,e0,hd1]|(with_reducible intro blk hblk;(try(have hnx:=hblk;simp only[EVK]at hnx;first|(have hne:=AI hnx hne)|(have hne:=hnx))))|(with_reducible refine ae ?_ ?_)|(with_reducible refine af ?_)|(refine⟨[u.cs],rfl,(by simp[U.cs_len]),(by simp),?_⟩)|(exfalso;omega)))
    rename_i b3 _ _ _ b5 _ _ _
    have hWk:∀env,Weak G env [(blk,.tok 27 8),(b5,.cells 25 [.own (some blk) 27 8 [u.cs]]),(b3,.cells 46 [.lst 2 (p.map Stp.cs)])] env [(b5,.cells 25 [.lst 8 ((dV u s).map U.cs)])]:=λenv=>
     Weak.trans (Weak.sub (SubN.tail (SubN.cons (SubN.nil _) _) _)) (Weak.st ⟨rfl,rfl,⟨.inr ⟨rfl,by rw[hf0];rfl⟩,trivial⟩,trivial⟩)
    clear hblk hnx hne
   case' false=>
    have hb2:(decide (s.kind=0)&&decide (s.label=[]))=false:=hb
    rw[hb2]at hB
    have hf0:dV u s=u.flat.filter λx=>aL x s:=by unfold dV;rw[hb];rfl
    (repeat' (first|(with_reducible (first|refine ab (λh=>?_) (λh=>?_)|refine ai (λh=>?_) (λh=>?_)|refine aj (λh=>?_) (λh=>?_))<;>(try simp only[Da,Db,Dc,Dw,De,Df,Dg,Dh]at h))|(with_reducible refine AI (by omega) ?_)|(with_reducible first|refine aa hM ?_|refine aa hB ?_)|simp only[EVz,seval,↓reduceIte,EV6,EV7,hg0,e0,hd1,hne]|simp only[EVz,seval,↓reduceIte,EV6,EV7,hg0,e0,hd1]|(with_reducible intro blk hblk;(try(have hnx:=hblk;simp only[EVK]at hnx;first|(have hne:=AI hnx hne)|(have hne:=hnx))))|(with_reducible refine ae ?_ ?_)|(with_reducible refine af ?_)|(exfalso;omega)))
    rename_i b3 _ _ _
    generalize hbe:blk=b5 at*
    refine av [(b3,_),(b5,_)] [] (f229 G (.func (.func 230) #[] #[.pointer (some ⟨b3,0,none⟩),.pointer (some ⟨b5,0,none⟩)]) u.flat.length (λpre σ=>St1 b3 b5 (s::r) s pre σ) ht.2 u ht (λx hx pre σ hσ hp=>⟨_,#[],#[_,_],rfl,by simpa[AV.ofValue,AV.ofOne]using f230 G b3 b5 s r x pre (by have:=ht.2;omega) σ hσ⟩) [] _ ⟨.nil,[],.inr ⟨rfl,rfl,rfl⟩,by rw[←hpe];rfl⟩ (by simp)).v (ax.rfl' _) (SubN.perm (List.Perm.swap _ _ _)) ?_
    rintro r' σ' hSt' hnd'
    obtain⟨v,κ,ho,rfl⟩:=hSt'
    rw[nil_append]at ho
    rw[←hpe]
    have q1:¬b3=b5:=λe=>hne.1 e.symm
    (repeat' (first|(with_reducible (first|refine ab (λh=>?_) (λh=>?_)|refine ai (λh=>?_) (λh=>?_)|refine aj (λh=>?_) (λh=>?_))<;>(try simp only[Da,Db,Dc,Dw,De,Df,Dg,Dh]at h))|(with_reducible refine AI (by omega) ?_)|simp only[EVz,seval,↓reduceIte,EV6,EV7,hd1,q1,hne]|simp only[EVz,seval,↓reduceIte,EV6,EV7,hd1,q1]|(with_reducible intro blk hblk;(try(have hnx:=hblk;simp only[EVK]at hnx;first|(have hne:=AI hnx hne)|(have hne:=hnx))))|(with_reducible refine ae ?_ ?_)|(with_reducible refine af ?_)|(exfalso;omega)))
    have hWk:∀env,Weak G env ((b3,.cells 46 [.lst 2 (p.map Stp.cs)])::(b5,.cells 25 [v])::κ) env [(b5,.cells 25 [.lst 8 ((dV u s).map U.cs)])]:=λenv=>by
     rw[hf0]
     rcases ho with ho|⟨ho,rfl,rfl⟩
     ·exact Weak.frz (cs:=[v]) (rest:=[]) (κ:=κ) ⟨.inr ⟨27,8,_,κ,ho,λq hq=>hq,rfl⟩,trivial⟩ (SubN.tail (SubN.refl _) _)
     ·rw[ho]
      exact Weak.trans (Weak.sub (SubN.tail (SubN.refl _) _)) (Weak.st ⟨rfl,rfl,⟨.inr rfl,trivial⟩,trivial⟩)
    clear hnd' hne hblk hnx
   all_goals
    refine ay (ι:=List U) r (λi rr l=>r.foldl aK (dV u s)=rr.foldl aK l/\msr l<=1048576) (λi l=>[(5,.sc (.pointer (some ⟨b5,0,none⟩))),(33,.lst 2 (r.map Stp.cs)),(34,.int .i64 r.length),(35,.int .i64 i)]) (λi l=>[(b5,.cells 25 [.lst 8 (l.map U.cs)])]) (dV u s) ⟨rfl,by omega⟩ (hWk _) (by omega) (λi y rr l hok2 hx hw=>?_) (λl hok2 hn=>?_)
    ·have hll:=gg l
     clear hWk
     (repeat' (first|(with_reducible (first|refine ab (λh=>?_) (λh=>?_)|refine ai (λh=>?_) (λh=>?_)|refine aj (λh=>?_) (λh=>?_))<;>(try simp only[Da,Db,Dc,Dw,De,Df,Dg,Dh]at h))|(with_reducible refine AI (by omega) ?_)|simp only[EVz,seval,↓reduceIte,EV6,EV7,hx.yes,hx.le0,hx.lt',hx.row,hw,hx.get,hne]|simp only[EVz,seval,↓reduceIte,EV6,EV7,hx.yes,hx.le0,hx.lt',hx.row,hw,hx.get]|(with_reducible intro blk hblk;(try(have hnx:=hblk;simp only[EVK]at hnx;first|(have hne:=AI hnx hne)|(have hne:=hnx))))|(with_reducible refine ae ?_ ?_)|(with_reducible refine af ?_)|(exfalso;omega)))
     have q1:¬blk=b5:=hnx
     have q2:¬b5=blk:=λe=>q1 e.symm
     generalize hb7:blk=b7 at*
     clear hne hblk hnx
     obtain⟨κ,hκ⟩:∃κ:Store,κ=[(b7,.cells 152 [.int .i64 y.kind,.str y.label]),(b5,.cells 25 [.lst 8 (l.map U.cs)])]:=⟨_,rfl⟩
     have hndκ:(Store.keys κ).Nodup:=by rw[hκ];simp[Store.keys,q1]
     refine ay (ι:=Option Nat) l (λj rl c=>∀b,c=some b->b∉Store.keys κ) (λj c=>[(5,.sc (.pointer (some ⟨b5,0,none⟩))),(7,.sc (.pointer (some ⟨b7,0,none⟩))),(8,.own c 27 8 ((aK (l.take j) y).map U.cs)),(33,.lst 2 (r.map Stp.cs)),(34,.int .i64 r.length),(35,.int .i64 i),(39,.lst 8 (l.map U.cs)),(40,.int .i64 l.length),(41,.int .i64 j)]) (λj c=>κ++tokS c 27 ((aK (l.take j) y).length*8)) none (by intro b h;cases h) (Weak.of (by simp[eJ,Env.get,AVle,aR,aK]) (by rw[hκ];exact SubN.refl _)) (by omega) (λj z rl c hok3 hz hwz=>?_) (λc hok3 hnz=>?_)
     ·have hsn:aK (l.take (j+1)) y=aK (l.take j) y++z.kids.filter λk=>aL k y:=by rw[hz.take,ll]
      have hsl:(aK (l.take (j+1)) y).length<=1048576:=by
       have h1:=gg (aK (l.take (j+1)) y)
       have h2:=iG y (l.take (j+1))
       have h3:msr l=msr (l.take (j+1))+msr (l.drop (j+1)):=by rw[←jJ,take_append_drop]
       omega
      have hzk:z.kids.length<=1048576:=by
       have h1:=gg z.kids
       have h2:=jm z.kids
       have h3:z.flat.length=1+(U.flats z.kids).length:=by rw[U.flat_eq,length_cons];omega
       have h4:msr l=msr (l.take (j+1))+msr (l.drop (j+1)):=by rw[←jJ,take_append_drop]
       have h5:msr (l.take (j+1))=msr (l.take j)+z.flat.length:=by rw[hz.take,jJ,cM,mi];omega
       omega
      rw[hsn,length_append]at hsl
      rw[hκ]
      (repeat' (first|(with_reducible (first|refine ab (λh=>?_) (λh=>?_)|refine ai (λh=>?_) (λh=>?_)|refine aj (λh=>?_) (λh=>?_))<;>(try simp only[Da,Db,Dc,Dw,De,Df,Dg,Dh]at h))|(with_reducible refine AI (by omega) ?_)|simp only[EVz,seval,↓reduceIte,EV6,EV7,hz.yes,hz.le0,hz.lt',hz.row,hwz,hz.get,q1,q2,hne]|simp only[EVz,seval,↓reduceIte,EV6,EV7,hz.yes,hz.le0,hz.lt',hz.row,hwz,hz.get,q1,q2]|(with_reducible intro blk hblk;(try(have hnx:=hblk;simp only[EVK]at hnx;first|(have hne:=AI hnx hne)|(have hne:=hnx))))|(with_reducible refine ae ?_ ?_)|(with_reducible refine af ?_)|(exfalso;omega)))
      have hZ0:=zPre_zero l y z.kids j
      have hZn:zPre l y z.kids j z.kids.length=aK (l.take (j+1)) y:=by rw[hsn,zPre_full]
      refine ay (ι:=Option Nat) z.kids (λk rk c=>∀b,c=some b->b∉Store.keys κ) (λk c=>[(5,.sc (.pointer (some ⟨b5,0,none⟩))),(7,.sc (.pointer (some ⟨b7,0,none⟩))),(8,.own c 27 8 ((zPre l y z.kids j k).map U.cs)),(33,.lst 2 (r.map Stp.cs)),(34,.int .i64 r.length),(35,.int .i64 i),(39,.lst 8 (l.map U.cs)),(40,.int .i64 l.length),(41,.int .i64 j),(46,.lst 8 (z.kids.map U.cs)),(47,.int .i64 z.kids.length),(48,.int .i64 k)]) (λk c=>κ++tokS c 27 ((zPre l y z.kids j k).length*8)) c hok3 (Weak.of (by simp[eJ,Env.get,AVle,aR,hZ0]) (by rw[hκ];simp only[hZ0];exact SubN.tail (SubN.refl _) _)) (Nat.lt_of_le_of_lt hzk (by decide)) (λk q rk c hok4 hq hwq=>?_) (λc hok4 hnq=>?_)
      ·have hA:=f231 G q y
       have hfk:((z.kids.take k).filter λk=>aL k y).length<=k:=Nat.le_trans (length_filter_le _ _) (by rw[length_take];omega)
       have hkl:=hq.lt
       have hA1:(aK (l.take j) y).length<=1048576:=Nat.le_trans (Nat.le_add_right _ _) hsl
       have hB1:((z.kids.take k).filter λk=>aL k y).length<=1048576:=Nat.le_trans hfk (Nat.le_trans (Nat.le_of_lt hkl) hzk)
       have hZl:(zPre l y z.kids j k).length<=2097152:=by
        rw[zPre_len]
        exact Nat.add_le_add hA1 hB1
       have hcc:aL q y=true\/aL q y=false:=by
        cases aL q y
        ·exact .inr rfl
        ·exact .inl rfl
       rcases hcc with hc|hc
       ·have ef:zPre l y z.kids j (k+1)=zPre l y z.kids j k++[q]:=zPre_yes hq hc
        rw[hc]at hA
        clear hfl hfl2 hN2 hsl hzk hsn hll hZ0 hZn hN hfk hp hf0 hA1 hB1
        rw[hκ]
        (repeat' (first|(with_reducible (first|refine ab (λh=>?_) (λh=>?_)|refine ai (λh=>?_) (λh=>?_)|refine aj (λh=>?_) (λh=>?_))<;>(try simp only[Da,Db,Dc,Dw,De,Df,Dg,Dh]at h))|(with_reducible refine AI (by omega) ?_)|(with_reducible refine aa hA ?_)|simp only[EVz,seval,↓reduceIte,EV6,EV7,hq.yes,hq.le0,hq.lt',hq.row,hwq,hq.get,q1,q2,hne]|simp only[EVz,seval,↓reduceIte,EV6,EV7,hq.yes,hq.le0,hq.lt',hq.row,hwq,hq.get,q1,q2]|(with_reducible intro blk hblk;(try(have hnx:=hblk;simp only[EVK]at hnx;first|(have hne:=AI hnx hne)|(have hne:=hnx))))|(with_reducible refine ae ?_ ?_)|(with_reducible refine af ?_)|(exfalso;omega)))
        rename_i b12 hb12 _ _
        refine⟨[q.cs],rfl,by simp[U.cs_len],by simp,?_⟩
        refine app_kept2 (sz:=8) (bytes:=120) (rows:=(zPre l y z.kids j k).map U.cs) (ys:=[q.cs]) (m:=(zPre l y z.kids j k).length*8) [(b7,.cells 152 [.int .i64 y.kind,.str y.label]),(b5,.cells 25 [.lst 8 (l.map U.cs)])] hb12 hblk (hκ ▸ hok4) (by rw[length_map]) (hκ ▸ hndκ) (by rw[length_map];simp;omega) (λgn hgn=>?_)
        refine ap hq gn hgn ?_
        rw[ef,map_append,length_append]
        simp only[length_map,map_cons,map_nil,length_append,length_cons,length_nil]
        exact Weak.rfl' _ _
       ·have ef:zPre l y z.kids j (k+1)=zPre l y z.kids j k:=zPre_not hq hc
        rw[hc]at hA
        clear hfl hfl2 hN2 hsl hzk hsn hll hZ0 hZn hN hfk hp hf0 hA1 hB1
        rw[hκ]
        (repeat' (first|(with_reducible (first|refine ab (λh=>?_) (λh=>?_)|refine ai (λh=>?_) (λh=>?_)|refine aj (λh=>?_) (λh=>?_))<;>(try simp only[Da,Db,Dc,Dw,De,Df,Dg,Dh]at h))|(with_reducible refine AI (by omega) ?_)|(with_reducible refine aa hA ?_)|simp only[EVz,seval,↓reduceIte,EV6,EV7,hq.yes,hq.le0,hq.lt',hq.row,hwq,hq.get,q1,q2,hne]|simp only[EVz,seval,↓reduceIte,EV6,EV7,hq.yes,hq.le0,hq.lt',hq.row,hwq,hq.get,q1,q2]|(with_reducible intro blk hblk;(try(have hnx:=hblk;simp only[EVK]at hnx;first|(have hne:=AI hnx hne)|(have hne:=hnx))))|(with_reducible refine ae ?_ ?_)|(with_reducible refine af ?_)|(exfalso;omega)))
        refine ap hq c (hκ ▸ hok4) ?_
        rw[ef]
        exact Weak.sub (SubN.tail (SubN.refl _) _)
      ·(try simp only[EVz,seval,↓reduceIte,EV6,EV7,hnq,hwz])
       refine ap hz c (hκ ▸ hok4) ?_
       rw[hZn,hκ]
       exact Weak.rfl' _ _
     ·rw[hκ]
      (repeat' (first|(with_reducible (first|refine ab (λh=>?_) (λh=>?_)|refine ai (λh=>?_) (λh=>?_)|refine aj (λh=>?_) (λh=>?_))<;>(try simp only[Da,Db,Dc,Dw,De,Df,Dg,Dh]at h))|(with_reducible refine AI (by omega) ?_)|simp only[EVz,seval,↓reduceIte,EV6,EV7,hnz,hw,q1,q2,hne]|simp only[EVz,seval,↓reduceIte,EV6,EV7,hnz,hw,q1,q2]|(with_reducible intro blk hblk;(try(have hnx:=hblk;simp only[EVK]at hnx;first|(have hne:=AI hnx hne)|(have hne:=hnx))))|(with_reducible refine ae ?_ ?_)|(with_reducible refine af ?_)|(exfalso;omega)))
      refine ap hx (aK l y) ⟨hok2.1,Nat.le_trans (iG y l) hok2.2⟩ ?_
      rw[take_length]
      refine Weak.trans (Weak.sub (σ':=[(b5,.cells 25 [.own c 27 8 ((aK l y).map U.cs)])]) (SubN.tail (SubN.cons (SubN.nil _) _) _)) (Weak.st ⟨rfl,rfl,⟨.inr ⟨rfl,rfl⟩,trivial⟩,trivial⟩)
    ·(repeat' (first|(with_reducible (first|refine ab (λh=>?_) (λh=>?_)|refine ai (λh=>?_) (λh=>?_)|refine aj (λh=>?_) (λh=>?_))<;>(try simp only[Da,Db,Dc,Dw,De,Df,Dg,Dh]at h))|(with_reducible refine AI (by omega) ?_)|simp only[EVz,seval,↓reduceIte,EV6,EV7,hn,hne]|simp only[EVz,seval,↓reduceIte,EV6,EV7,hn]|(with_reducible intro blk hblk;(try(have hnx:=hblk;simp only[EVK]at hnx;first|(have hne:=AI hnx hne)|(have hne:=hnx))))|(with_reducible refine ae ?_ ?_)|(with_reducible refine af ?_)|(exfalso;omega)))
     exact hR2 _ _ (Or.inl (Or.inl (by rw[hok2.1];rfl)))
theorem f82 (u:U) (p:List Stp) (ht:u.Tame) (hN:u.flat.length<=1024) (hp:p.length<1000000):Pure G Tryz.prog 82 [.agg u.cs,.lst 2 (p.map Stp.cs)] (.lst 3 (((fY u p).map U.id).map Idd.cs)):=by
 have hF:=f143 G u p ht hN hp
 have hl:=lI u p
 have hN2:u.flat.length*u.flat.length<=1048576:=Nat.mul_le_mul hN hN
 obtain⟨l,hle⟩:∃l,fY u p=l:=⟨_,rfl⟩
 rw[hle]at hF hl ⊢
 refine Pure.w c82 λR hR=>?_
 unfold s82 r82
 have hl2:l.length<=1048576:=Nat.le_trans hl hN2
 clear hl hN2 hN
 (repeat' (first|(with_reducible (first|refine ab (λh=>?_) (λh=>?_)|refine ai (λh=>?_) (λh=>?_)|refine aj (λh=>?_) (λh=>?_))<;>(try simp only[Da,Db,Dc,Dw,De,Df,Dg,Dh]at h))|(with_reducible refine AI (by omega) ?_)|(with_reducible refine aa hF ?_)|simp only[EVz,seval,↓reduceIte,EV6,EV7,hne]|simp only[EVz,seval,↓reduceIte,EV6,EV7]|(with_reducible intro blk hblk;(try(have hnx:=hblk;simp only[EVK]at hnx;first|(have hne:=AI hnx hne)|(have hne:=hnx))))|(with_reducible refine ae ?_ ?_)|(with_reducible refine af ?_)|(exfalso;omega)))
 refine ay (ι:=Option Nat) l (λi r c=>True) (λi c=>[(5,.own c 23 3 ((l.take i).map λx=>x.id.cs)),(10,.lst 8 (l.map U.cs)),(11,.int .i64 l.length),(12,.int .i64 i)]) (λi c=>tokS c 23 (i*3)) none trivial (Weak.of (by simp[eJ,Env.get,AVle,aR]) (SubN.refl _)) (by omega) (λi x r c hok hx hw=>?_) (λc hok hn=>?_)
 ·have hi:=hx.lt
  (repeat' (first|(with_reducible (first|refine ab (λh=>?_) (λh=>?_)|refine ai (λh=>?_) (λh=>?_)|refine aj (λh=>?_) (λh=>?_))<;>(try simp only[Da,Db,Dc,Dw,De,Df,Dg,Dh]at h))|(with_reducible refine AI (by omega) ?_)|simp only[EVz,seval,↓reduceIte,EV6,EV7,hx.yes,hx.le0,hx.lt',hx.row,hw,hx.get,hne]|simp only[EVz,seval,↓reduceIte,EV6,EV7,hx.yes,hx.le0,hx.lt',hx.row,hw,hx.get]|(with_reducible intro blk hblk;(try(have hnx:=hblk;simp only[EVK]at hnx;first|(have hne:=AI hnx hne)|(have hne:=hnx))))|(with_reducible refine ae ?_ ?_)|(with_reducible refine af ?_)|(exfalso;omega)))
  refine gi (n:=i) (m':=(i+1)*3) (by first|exact iR|exact d5 (by assumption)|exact lk (by assumption) (by assumption)) (by rw[length_map,length_take];omega) rfl rfl rfl (by assumption) (by omega) (λgn=>?_)
  refine ap hx gn trivial ?_
  simp only[hx.take,map_append,map_cons,map_nil]
  exact Weak.rfl' _ _
 ·(repeat' (first|(with_reducible (first|refine ab (λh=>?_) (λh=>?_)|refine ai (λh=>?_) (λh=>?_)|refine aj (λh=>?_) (λh=>?_))<;>(try simp only[Da,Db,Dc,Dw,De,Df,Dg,Dh]at h))|(with_reducible refine AI (by omega) ?_)|simp only[EVz,seval,↓reduceIte,EV6,EV7,hn,hne]|simp only[EVz,seval,↓reduceIte,EV6,EV7,hn]|(with_reducible intro blk hblk;(try(have hnx:=hblk;simp only[EVK]at hnx;first|(have hne:=AI hnx hne)|(have hne:=hnx))))|(with_reducible refine ae ?_ ?_)|(with_reducible refine af ?_)|(exfalso;omega)))
  exact hR _ _ (Or.inl (Or.inr ⟨rfl,by rw[take_length,map_map];rfl⟩))
theorem f43 (u:U) (p:List Stp) (ht:u.Tame) (hN:u.flat.length<=1024) (hp:p.length<1000000):Pure G Tryz.prog 43 [.agg u.cs,.lst 2 (p.map Stp.cs)] (lH u p):=by
 have hU:=f82 G u p ht hN hp
 refine Pure.w c43 λR hR=>?_
 unfold s43 r43
 unfold lH one at hR
 have hl:(fY u p).length<=1048576:=Nat.le_trans (lI u p) (Nat.mul_le_mul hN hN)
 generalize fY u p=l at*
 rcases l with _|⟨x,_|⟨y,l⟩⟩
 ·simp only[map_nil]at hU hR
  (repeat' (first|(with_reducible (first|refine ab (λh=>?_) (λh=>?_)|refine ai (λh=>?_) (λh=>?_)|refine aj (λh=>?_) (λh=>?_))<;>(try simp only[Da,Db,Dc,Dw,De,Df,Dg,Dh]at h))|(with_reducible refine AI (by omega) ?_)|(with_reducible refine aa hU ?_)|simp only[EVz,seval,↓reduceIte,EV6,EV7,hne]|simp only[EVz,seval,↓reduceIte,EV6,EV7]|(with_reducible intro blk hblk;(try(have hnx:=hblk;simp only[EVK]at hnx;first|(have hne:=AI hnx hne)|(have hne:=hnx))))|(with_reducible refine ae ?_ ?_)|(with_reducible refine af ?_)|(exfalso;omega)))
  all_goals exact hR _ _ (Or.inl (Or.inl rfl))
 ·simp only[map_cons,map_nil,Idd.cs]at hU hR
  (repeat' (first|(with_reducible (first|refine ab (λh=>?_) (λh=>?_)|refine ai (λh=>?_) (λh=>?_)|refine aj (λh=>?_) (λh=>?_))<;>(try simp only[Da,Db,Dc,Dw,De,Df,Dg,Dh]at h))|(with_reducible refine AI (by omega) ?_)|(with_reducible refine aa hU ?_)|simp only[EVz,seval,↓reduceIte,EV6,EV7,hne]|simp only[EVz,seval,↓reduceIte,EV6,EV7]|(with_reducible intro blk hblk;(try(have hnx:=hblk;simp only[EVK]at hnx;first|(have hne:=AI hnx hne)|(have hne:=hnx))))|(with_reducible refine ae ?_ ?_)|(with_reducible refine af ?_)|(exfalso;omega)))
  all_goals first|exact hR _ _ (Or.inl (Or.inl rfl))|(exfalso;omega)
 ·simp only[map_cons,Idd.cs]at hU hR
  (repeat' (first|(with_reducible (first|refine ab (λh=>?_) (λh=>?_)|refine ai (λh=>?_) (λh=>?_)|refine aj (λh=>?_) (λh=>?_))<;>(try simp only[Da,Db,Dc,Dw,De,Df,Dg,Dh]at h))|(with_reducible refine AI (by omega) ?_)|(with_reducible refine aa hU ?_)|simp only[EVz,seval,↓reduceIte,EV6,EV7,hne]|simp only[EVz,seval,↓reduceIte,EV6,EV7]|(with_reducible intro blk hblk;(try(have hnx:=hblk;simp only[EVK]at hnx;first|(have hne:=AI hnx hne)|(have hne:=hnx))))|(with_reducible refine ae ?_ ?_)|(with_reducible refine af ?_)|(exfalso;omega)))
  all_goals first|exact hR _ _ (Or.inl (Or.inl rfl))|(exfalso;omega)
end
section
variable (G:Glob)
end
section
variable (G:Glob)
def OwnW (l:List Wd) (r:AV) (σ:Store):Prop:=∃g,r= .own g 33 4 (l.map Wd.cs)/\σ=tokS g 33 (l.length*4)
end
theorem iu {n len:Nat} (hl:1<=len):∀{ps:List Nat} {s:Nat},s<=n->Gaps n len s ps->s+ps.length<=n
 |[],s,h,_=>by simpa using h
 |p::ps,s,h,⟨h1,h2,h3⟩=>by
  have:=iu hl h2 h3
  rw[length_cons];omega
def iX (q:List Wd×Int):AV:=.tup [.lst 4 (q.1.map Wd.cs),.int .i64 q.2]
section
variable (G:Glob)
end
section
variable (G:Glob)
theorem f161o (l:List (List UInt8)) (a b m:Int) (hl:l.length<1000000) (hm0:0<=m) (hm:m<1000000000000):ag G Tryz.prog 161 [.lst 1 (l.map srow),.int .i64 a,.int .i64 b,.int .i64 m] [] (OwnW (aX a b l m)):=by
 refine ag.w c161 ?_
 unfold s161 r161
 (repeat' (first|simp only[EVz,seval,↓reduceIte,EV6,EV7,hx.yes,hx.le0,hx.lt',hx.get,hx.row,hw,aA (x:=m+(i:Int)) (by omega) (by have:=hx.lt;omega)]|simp only[EVz,seval,↓reduceIte,EV6,EV7,hn]|simp only[EVz,seval,↓reduceIte,EV6,EV7]|(with_reducible intro blk hblk;(try(have hnx:=hblk;simp only[EVK]at hnx;(have hne:=hnx))))|(refine ay (ι:=Option Nat) l (λi r c=>True) (λi c=>[(1,.int .i64 a),(2,.int .i64 b),(3,.int .i64 m),(9,.own c 33 4 ((aX a b (l.take i) m).map Wd.cs)),(12,.lst 1 (l.map srow)),(13,.int .i64 l.length),(14,.int .i64 i)]) (λi c=>tokS c 33 (i*4)) none trivial (Weak.of (by simp[eJ,Env.get,AVle,aR,aX]) (SubN.refl _)) (by omega) (λi x r c hok hx hw=>?_) (λc hok hn=>?_))|fail))
 ·have hi:=hx.lt
  refine gi (n:=i) (m':=(i+1)*4) iR (by rw[length_map,cH,length_take];omega) rfl rfl rfl (by assumption) (by omega) (λgn=>?_)
  refine ap hx gn trivial ?_
  rw[ph a b l m hx,map_append]
  exact Weak.rfl' _ _
 ·rw[take_length]
  exact RET.mk (SubN.refl _) ⟨c,rfl,by rw[cH]⟩
theorem f161 (l:List (List UInt8)) (a b m:Int) (hl:l.length<1000000) (hm0:0<=m) (hm:m<1000000000000):Pure G Tryz.prog 161 [.lst 1 (l.map srow),.int .i64 a,.int .i64 b,.int .i64 m] (.lst 4 ((aX a b l m).map Wd.cs)):=
 ag.toPure (f161o G l a b m hl hm0 hm) (by rintro r σ' ⟨g,rfl,rfl⟩;exact LeRep.of (.inl (.inr ⟨rfl,rfl⟩)))
theorem f277 (l:List Wd) (hl:l.length<1000000):Pure G Tryz.prog 277 [.lst 4 (l.map Wd.cs)] (.lst 1 ((l.map Wd.text).map srow)):=by
 refine Pure.w c277 λR hR=>?_
 unfold s277 r277
 (repeat' (simp only[EVz,seval,↓reduceIte,EV6,EV7]))
 refine ay (ι:=Option Nat) l (λi r c=>True) (λi c=>[(3,.own c 9 1 ((l.take i).map λw=>srow w.text)),(6,.lst 4 (l.map Wd.cs)),(7,.int .i64 l.length),(8,.int .i64 i)]) (λi c=>tokS c 9 (i*1)) none trivial (Weak.of (by simp[eJ,Env.get,AVle,aR]) (SubN.refl _)) (by omega) (λi x r c hok hx hw=>?_) (λc hok hn=>?_)
 ·have hi:=hx.lt
  (repeat' (first|simp only[EVz,seval,↓reduceIte,EV6,EV7,hx.yes,hx.le0,hx.lt',hx.row,hw,hx.get]|(with_reducible intro blk hblk;(try(have hnx:=hblk;simp only[EVK]at hnx;(have hne:=hnx))))|fail))
  refine gi (n:=i) (m':=(i+1)*1) (d5 (by assumption)) (by rw[length_map,length_take];omega) rfl rfl rfl (by assumption) (by omega) (λgn=>?_)
  refine ap hx gn trivial ?_
  simp only[hx.take,map_append,map_cons,map_nil,srow]
  exact Weak.rfl' _ _
 ·(repeat' (simp only[EVz,seval,↓reduceIte,EV6,EV7,hn]))
  exact hR _ _ (Or.inl (Or.inr ⟨rfl,by rw[take_length,map_map];rfl⟩))
theorem f276 (w row:List (List UInt8)) (hw:w.length<1000000) (hr:row.length<1000000) (hr0:row≠[]):Pure G Tryz.prog 276 [.lst 1 (w.map srow),.lst 1 (row.map srow)] (.lst 1 ((occL row 0 0 w).map λn:Nat=>[AV.int .i64 (n:Int)])):=by
 have hl1:1<=row.length:=by cases row<;>simp_all
 have e9:decide ((row.length:Int)=0)=false:=decide_eq_false (by omega)
 refine Pure.w c276 λR hR=>?_
 unfold s276 r276
 (repeat' (simp only[EVz,seval,↓reduceIte,EV6,EV7,e9]))
 refine jf (ι:=Nat×List Nat×Option Nat) (λp=>p.1<=w.length/\p.2.1.length<=p.1/\occL row 0 0 w=p.2.1++occL row 0 p.1 (w.drop p.1)) (λp=>w.length+1-p.1) (λp=>[(0,.lst 1 (w.map srow)),(1,.lst 1 (row.map srow)),(5,.own p.2.2 3 1 (p.2.1.map λn:Nat=>[AV.int .i64 (n:Int)])),(6,.int .i64 p.1)]) (λp=>tokS p.2.2 3 (p.2.1.length*1)) (0,[],none) ⟨by omega,by simp,by simp⟩ (Weak.of (by simp[eJ,Env.get,AVle,aR]) (SubN.refl _)) ?_
 rintro⟨i,l,c⟩ ⟨h1,h2,h3⟩
 simp only at h1 h2 h3 ⊢
 have w2:IntKind.i64.wrap ((i:Int)+(row.length:Int))=((i+row.length:Nat):Int):=by rw[aA (by omega) (by omega)];omega
 by_cases hi:i+row.length<=w.length
 ·have e0:decide (((i+row.length:Nat):Int)<=(w.length:Int))=true:=decide_eq_true (by omega)
  have w1:IntKind.i64.wrap ((i:Int)+1)=((i+1:Nat):Int):=jE (by omega)
  have hE:=f192 G ((w.drop i).take row.length) row (by rw[length_take];omega)
  have hsl:List.drop i (List.take (i+row.length) (w.map srow))=((w.drop i).take row.length).map srow:=by rw[drop_take,map_take,map_drop];congr 1;omega
  rcases Classical.em ((w.drop i).take row.length=row)with hm|hm
  ·rw[decide_eq_true hm]at hE
   rw[occL_hit hr0 hm,drop_drop]at h3
   (repeat' (first|(with_reducible refine AI (by omega) ?_)|(with_reducible refine aa hE ?_)|simp only[EVz,seval,↓reduceIte,EV6,EV7,e0,w1,w2,hsl]|(with_reducible intro blk hblk;(try(have hnx:=hblk;simp only[EVK]at hnx;(have hne:=hnx))))|(refine⟨[[AV.int .i64 (i:Int)]],rfl,(by simp),(by simp),?_⟩)|(refine app_lst (by((simp only[length_map]<;>exact d5 (by assumption)))) rfl rfl (by simp<;>omega) (λgn=>?_))|fail))
   refine⟨(i+row.length,l++[i],gn),⟨by simp only;omega,by simp only[length_append,length_cons,length_nil];omega,by simp only[append_assoc,cons_append,nil_append];exact h3⟩,by simp only;omega,?_⟩
   simp only[map_append,map_cons,map_nil,length_append,length_map,length_cons,length_nil]
   exact Weak.rfl' _ _
  ·rw[decide_eq_false hm]at hE
   rw[occL_miss hm,drop_drop]at h3
   (repeat' (first|(with_reducible refine AI (by omega) ?_)|(with_reducible refine aa hE ?_)|simp only[EVz,seval,↓reduceIte,EV6,EV7,e0,w1,w2,hsl]|fail))
   exact⟨(i+1,l,c),⟨by simp only;omega,by simp only;omega,h3⟩,by simp only;omega,Weak.rfl' _ _⟩
 ·have e0:decide (((i+row.length:Nat):Int)<=(w.length:Int))=false:=decide_eq_false (by omega)
  have e2:occL row 0 i (w.drop i)=[]:=kk (by rw[length_drop];omega)
  rw[e2,append_nil]at h3
  (repeat' (simp only[EVz,seval,↓reduceIte,EV6,EV7,e0,w2]))
  exact hR _ _ (Or.inl (Or.inr ⟨rfl,by rw[h3]⟩))
end
def prow (n:Nat):List AV:=[.int .i64 n]
section
variable (G:Glob)
theorem f245 (w:List Wd) (row:List (List UInt8)) (nth:Int) (hw:w.length<1000000) (hr:row.length<1000000) (hr0:row≠[]) (hn:0<=nth) (hn2:nth<=1000000):Pure G Tryz.prog 245 [.lst 4 (w.map Wd.cs),.lst 1 (row.map srow),.int .i64 nth] (.lst 1 ((cF (occs w row) nth).map λn:Nat=>[AV.int .i64 (n:Int)])):=by
 have hS:=f277 G w hw
 have hF:=f276 G (w.map Wd.text) row (by rw[length_map];exact hw) hr hr0
 have hof:occL row 0 0 (w.map Wd.text)=occs w row:=rfl
 rw[hof]at hF
 refine Pure.w c245 λR hR=>?_
 unfold s245 r245
 obtain⟨ps,hps⟩:∃ps,occs w row=ps:=⟨_,rfl⟩
 rw[hps]at hR hF
 unfold cF at hR
 rcases Classical.em (nth=0)with h0|h0
 ·have e0:decide (nth=0)=true:=decide_eq_true h0
  rw[if_pos h0]at hR
  (repeat' (first|(with_reducible first|refine aa hS ?_|refine aa hF ?_)|simp only[EVz,seval,↓reduceIte,EV6,EV7,e0]|fail))
  exact hR _ _ (Or.inl (Or.inl rfl))
 ·have e0:decide (nth=0)=false:=decide_eq_false h0
  have w1:IntKind.i64.wrap (nth-1)=nth-1:=aA (by omega) (by omega)
  rw[if_neg h0]at hR
  rcases Classical.em ((ps.length:Int)<nth)with h1|h1
  ·have e1:decide ((ps.length:Int)<nth)=true:=decide_eq_true h1
   have e2:ps[(nth-1).toNat]? =none:=getElem?_eq_none (by omega)
   rw[e2]at hR
   (repeat' (first|(with_reducible first|refine aa hS ?_|refine aa hF ?_)|simp only[EVz,seval,↓reduceIte,EV6,EV7,e0,e1]|fail))
   exact hR _ _ (Or.inl (Or.inr rfl))
  ·have e1:decide ((ps.length:Int)<nth)=false:=decide_eq_false h1
   have hlt:(nth-1).toNat<ps.length:=by omega
   have e2:ps[(nth-1).toNat]? =some ps[(nth-1).toNat]:=getElem?_eq_getElem hlt
   rw[e2]at hR
   have e3:List.drop (nth-1).toNat (List.take nth.toNat (ps.map λn:Nat=>[AV.int .i64 (n:Int)]))=[[AV.int .i64 ((ps[(nth-1).toNat]:Nat):Int)]]:=by
    rw[show nth.toNat=(nth-1).toNat+1 by omega,take_add_one,getElem?_map,e2,drop_append_of_le_length (by simp;omega),drop_eq_nil_of_le (by simp;omega)]
    rfl
   (repeat' (first|(with_reducible refine AI (by omega) ?_)|(with_reducible first|refine aa hS ?_|refine aa hF ?_)|simp only[EVz,seval,↓reduceIte,EV6,EV7,e0,e1,w1,e3]|fail))
   exact hR _ _ (Or.inl (Or.inl rfl))
abbrev stp4 (a b n m:Int):List AV:=[.int .i64 a,.int .i64 b,.int .i64 n,.int .i64 m]
set_option maxHeartbeats 1000000 in
theorem f274 (bs:Nat) (l:List Wd) (a b n m:Int) (hl:l.length<1000000) (hm0:0<=m) (hm:m<1000000000000):
  ag G Tryz.prog 274 [.sc (.pointer (some ⟨bs,0,none⟩)),.lst 4 (l.map Wd.cs)] [(bs,.cells 216 (stp4 a b n m))] λr σ'=>r= .lst 4 ((aX a b (l.map Wd.text) m).map Wd.cs)/\σ'=[(bs,.cells 216 (stp4 a b n (m+l.length)))]:=by
 have hS:=f277 G l hl
 have hM:=f161 G (l.map Wd.text) a b m (by rw[length_map];exact hl) hm0 hm
 have hml:(aX a b (l.map Wd.text) m).length=l.length:=by rw[cH,length_map]
 have w1:IntKind.i64.wrap (m+(l.length:Int))=m+l.length:=aA (by omega) (by omega)
 refine ag.w c274 ?_
 unfold s274 r274 stp4
 (repeat' (first|(with_reducible first|refine aa hS ?_|refine aa hM ?_)|simp only[EVz,seval,↓reduceIte,EV6,EV7,hml,w1]|(with_reducible refine ae ?_ ?_)|(with_reducible refine af ?_)|fail))
 all_goals exact RET.mk (SubN.refl _) ⟨rfl,rfl⟩
end
end Go.Av
