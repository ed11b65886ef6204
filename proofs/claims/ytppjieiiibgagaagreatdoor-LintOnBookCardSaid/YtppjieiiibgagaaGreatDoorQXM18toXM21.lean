/-
  ENACT, M18: the units that an address means, by the program (2).
-/
import Derived.Test.YtppjieiiibgagaaGreatDoorQXM15toXM17
import Derived.Test.YtppjieiiibgagaaGreatDoorQXOpItoXM8
import Derived.Test.YtppjieiiibgagaaGreatDoorQXM11toXL44
import Derived.Test.YtppjieiiibgagaaGreatDoorQXL54toXM4
set_option linter.all false
namespace Go.Av
open Go Go.RowKit Go.Proofs List
section
variable (G:Glob)
set_option maxHeartbeats 2000000 in
def f134 (u:U) (p:List Stp) (ht:u.Tame) (hN:u.flat.length<=1024) (hp:p.length<1000000):Pure G Tryz.prog 134 [.agg u.cs,.lst 2 (p.map Stp.cs)] (.lst 8 ((eL u p).map U.cs)):=by
 have hM:=f131 G p hp;refine Pure.w c134 λR hR=>?_;unfold s134 r134;unfold eL at hR
 cases bw:cP p with
 |false=>
  rw[bw,if_pos rfl]at hR;rw[bw]at hM;(repeat' (first|(with_reducible (first|refine ae (λh=>?_) λh=>?_|refine af (λh=>?_) λh=>?_|refine ax (λh=>?_) λh=>?_)<;>(try simp only[DZ]at h))|(with_reducible first|refine AI (by omega) ?_|refine ab hM ?_)|simp only[EV,seval,D]|simp only[EV,seval]|(with_reducible intro I F;(try(have E:=F;simp only[EVK]at E;first|(have D:=AI E D)|(have D:=E))))|(with_reducible first|refine ag ?_ ?_|refine ai ?_)|(exfalso;omega)));exact hR _ _ (Or.inl (Or.inr rfl))
 |true=>
  rw[bw]at hM hR;simp only[Bool.true_eq_false,if_false]at hR;by_cases h0:p=[]
  ·subst h0;simp only[map_nil]at hM ⊢;(repeat' (first|(with_reducible (first|refine ae (λh=>?_) λh=>?_|refine af (λh=>?_) λh=>?_|refine ax (λh=>?_) λh=>?_)<;>(try simp only[DZ]at h))|(with_reducible first|refine AI (by omega) ?_|refine ab hM ?_)|simp only[EV,seval,D]|simp only[EV,seval]|(with_reducible intro I F;(try(have E:=F;simp only[EVK]at E;first|(have D:=AI E D)|(have D:=E))))|(with_reducible first|refine ag ?_ ?_|refine ai ?_)|(refine⟨[u.cs],rfl,(by simp[ra]),(by simp),?_⟩)|(exfalso;omega)));exact hR _ _ (Or.inl (Or.inr ⟨rfl,rfl⟩))
  ·obtain⟨s,r,X⟩:∃s r,p=s::r:=by cases p<;>simp_all
   have d3:∀x σ,AVle x (.lst 8 ((r.foldl aD (cG u s)).map U.cs))->RET x σ R:=by
    rw[X]at hR;exact hR
   clear hR
   have e2:p.length=r.length+1:=by rw[X];simp
   have ad:(p.map Stp.cs).getD 0 []=s.cs:=by rw[X];rfl
   have e0:decide ((p.length:Int)=0)=false:=decide_eq_false (by omega)
   have V:List.drop 1 (List.take p.length (p.map Stp.cs))=r.map Stp.cs:=by rw[take_of_length_le (by simp),X];rfl
   have e7:(r.map Stp.cs).length=r.length:=by simp
   have hB:=f251 G s.kind s.label;have ch:u.flat.length*u.flat.length<=1048576:=Nat.mul_le_mul hN hN;have cw:=jn u s;have bb:=eC (cG u s)
   cases hb:lc s
   case' true=>
    have bn:(decide (s.kind=0)&&decide (s.label=[]))=true:=hb;rw[bn]at hB
    have aa:cG u s=[u]:=by unfold cG;rw[hb];rfl
    (repeat' (first|(with_reducible (first|refine ae (λh=>?_) λh=>?_|refine af (λh=>?_) λh=>?_|refine ax (λh=>?_) λh=>?_)<;>(try simp only[DZ]at h))|(with_reducible first|refine AI (by omega) ?_|refine ab hM ?_|refine ab hB ?_)|simp only[EV,seval,ad,e0,V,D]|simp only[EV,seval,ad,e0,V]|(with_reducible intro I F;(try(have E:=F;simp only[EVK]at E;first|(have D:=AI E D)|(have D:=E))))|(with_reducible first|refine ag ?_ ?_|refine ai ?_)|(refine⟨[u.cs],rfl,(by simp[ra]),(by simp),?_⟩)|(exfalso;omega)));rename_i b3 _ _ _ N _ _ _
    have bk:∀env,Weak G env [(I,.tok 27 8),(N,.cells 25 [.own (some I) 27 8 [u.cs]]),(b3,.cells 28 [.lst 2 (p.map Stp.cs)])] env [(N,.cells 25 [.lst 8 ((cG u s).map U.cs)])]:=λenv=>
     Weak.trans (Weak.sub (SubN.tail (SubN.cons (SubN.nil _) _) _)) (Weak.st ⟨rfl,rfl,⟨.inr ⟨rfl,by rw[aa];rfl⟩,trivial⟩,trivial⟩)
    clear F E D
   case' false=>
    have bn:(decide (s.kind=0)&&decide (s.label=[]))=false:=hb;rw[bn]at hB
    have aa:cG u s=u.flat.filter λx=>ay x s:=by unfold cG;rw[hb];rfl
    (repeat' (first|(with_reducible (first|refine ae (λh=>?_) λh=>?_|refine af (λh=>?_) λh=>?_|refine ax (λh=>?_) λh=>?_)<;>(try simp only[DZ]at h))|(with_reducible first|refine AI (by omega) ?_|refine ab hM ?_|refine ab hB ?_)|simp only[EV,seval,ad,e0,V,D]|simp only[EV,seval,ad,e0,V]|(with_reducible intro I F;(try(have E:=F;simp only[EVK]at E;first|(have D:=AI E D)|(have D:=E))))|(with_reducible first|refine ag ?_ ?_|refine ai ?_)|(exfalso;omega)));rename_i b3 _ _ _;generalize e6:I=N at*;refine aB [(b3,_),(N,_)] [] (f253 G (.func (.func 254) #[] #[.p b3,.p N]) u.flat.length (λpre σ=>St1 b3 N (s::r) s pre σ) ht.2 u ht (λx hx pre σ e1 hp=>⟨_,#[],#[_,_],rfl,by simpa[AV.ofValue,AV.ofOne]using f254 G b3 N s r x pre (by have:=ht.2;omega) σ e1⟩) [] _ ⟨.nil,[],.inr ⟨rfl,rfl,rfl⟩,by rw[←X];rfl⟩ (by simp)).v (hU _) (o6 (List.Perm.swap _ _ _)) ?_;rintro r' σ' cm d1;obtain⟨v,κ,ho,rfl⟩:=cm;rw[nil_append]at ho;rw[←X];have Z:¬b3=N:=λe=>D.1 e.symm;(repeat' (first|(with_reducible (first|refine ae (λh=>?_) λh=>?_|refine af (λh=>?_) λh=>?_|refine ax (λh=>?_) λh=>?_)<;>(try simp only[DZ]at h))|(with_reducible refine AI (by omega) ?_)|simp only[EV,seval,V,Z,D]|simp only[EV,seval,V,Z]|(with_reducible intro I F;(try(have E:=F;simp only[EVK]at E;first|(have D:=AI E D)|(have D:=E))))|(with_reducible first|refine ag ?_ ?_|refine ai ?_)|(exfalso;omega)))
    have bk:∀env,Weak G env ((b3,.cells 28 [.lst 2 (p.map Stp.cs)])::(N,.cells 25 [v])::κ) env [(N,.cells 25 [.lst 8 ((cG u s).map U.cs)])]:=λenv=>by
     rw[aa]
     rcases ho with ho|⟨ho,rfl,rfl⟩
     ·exact uS (cs:=[v]) (rest:=[]) (κ:=κ) ⟨.inr ⟨27,8,_,κ,ho,λq J=>J,rfl⟩,trivial⟩ (SubN.tail (SubN.refl _) _)
     ·rw[ho];exact Weak.trans (Weak.sub (SubN.tail (SubN.refl _) _)) (Weak.st ⟨rfl,rfl,⟨.inr rfl,trivial⟩,trivial⟩)
    clear d1 D F E
   all_goals
    refine ap (ι:=List U) r (λi rr l=>r.foldl aD (cG u s)=rr.foldl aD l/\msr l<=1048576) (λi l=>[(5,.p N),(33,.lst 2 (r.map Stp.cs)),(34,.i r.length),(35,.i i)]) (λi l=>[(N,.cells 25 [.lst 8 (l.map U.cs)])]) (cG u s) ⟨rfl,by omega⟩ (bk _) (by omega) (λi y rr l O hx hw=>?_) (λl O hn=>?_)
    ·have d0:=eC l
     clear bk;(repeat' (first|(with_reducible (first|refine ae (λh=>?_) λh=>?_|refine af (λh=>?_) λh=>?_|refine ax (λh=>?_) λh=>?_)<;>(try simp only[DZ]at h))|(with_reducible refine AI (by omega) ?_)|simp only[EV,seval,hx.yes,hx.le0,hx.lt',hx.row,hw,hx.get,D]|simp only[EV,seval,hx.yes,hx.le0,hx.lt',hx.row,hw,hx.get]|(with_reducible intro I F;(try(have E:=F;simp only[EVK]at E;first|(have D:=AI E D)|(have D:=E))))|(with_reducible first|refine ag ?_ ?_|refine ai ?_)|(exfalso;omega)));have Z:¬I=N:=E;have q2:¬N=I:=λe=>Z e.symm;generalize e5:I=b7 at*;clear D F E;obtain⟨κ,M⟩:∃κ:Store,κ=[(b7,.cells 85 [.i y.kind,.str y.label]),(N,.cells 25 [.lst 8 (l.map U.cs)])]:=⟨_,rfl⟩
     have bs:(Store.keys κ).Nodup:=by rw[M];simp[Store.keys,Z]
     refine ap (ι:=Option Nat) l (λj rl c=>∀b,c=some b->b∉Store.keys κ) (λj c=>[(5,.p N),(7,.p b7),(8,.own c 27 8 ((aD (l.take j) y).map U.cs)),(33,.lst 2 (r.map Stp.cs)),(34,.i r.length),(35,.i i),(39,.lst 8 (l.map U.cs)),(40,.i l.length),(41,.i j)]) (λj c=>κ++tokS c 27 ((aD (l.take j) y).length*8)) none (by intro b h;cases h) (Weak.of (by simp[cj,Env.get,AVle,aH,aD]) (by rw[M];exact SubN.refl _)) (by omega) (λj z rl c bd Y bx=>?_) (λc bd d2=>?_)
     ·have al:aD (l.take (j+1)) y=aD (l.take j) y++z.kids.filter λk=>ay k y:=by rw[Y.take,iY]
      have ah:(aD (l.take (j+1)) y).length<=1048576:=by
       have h1:=eC (aD (l.take (j+1)) y);have h2:=gk y (l.take (j+1))
       have h3:msr l=msr (l.take (j+1))+msr (l.drop (j+1)):=by rw[←gE,take_append_drop]
       omega
      have aw:z.kids.length<=1048576:=by
       have h1:=eC z.kids;have h2:=im z.kids
       have h3:z.flat.length=1+(U.flats z.kids).length:=by rw[U.flat_eq,length_cons];omega
       have h4:msr l=msr (l.take (j+1))+msr (l.drop (j+1)):=by rw[←gE,take_append_drop]
       have h5:msr (l.take (j+1))=msr (l.take j)+z.flat.length:=by rw[Y.take,gE,dn,kZ];omega
       omega
      rw[al,length_append]at ah;rw[M];(repeat' (first|(with_reducible (first|refine ae (λh=>?_) λh=>?_|refine af (λh=>?_) λh=>?_|refine ax (λh=>?_) λh=>?_)<;>(try simp only[DZ]at h))|(with_reducible refine AI (by omega) ?_)|simp only[EV,seval,Y.yes,Y.le0,Y.lt',Y.row,bx,Y.get,Z,q2,D]|simp only[EV,seval,Y.yes,Y.le0,Y.lt',Y.row,bx,Y.get,Z,q2]|(with_reducible intro I F;(try(have E:=F;simp only[EVK]at E;first|(have D:=AI E D)|(have D:=E))))|(with_reducible first|refine ag ?_ ?_|refine ai ?_)|(exfalso;omega)));have ac:=nc l y z.kids j
      have bm:zPre l y z.kids j z.kids.length=aD (l.take (j+1)) y:=by rw[al,nA]
      refine ap (ι:=Option Nat) z.kids (λk rk c=>∀b,c=some b->b∉Store.keys κ) (λk c=>[(5,.p N),(7,.p b7),(8,.own c 27 8 ((zPre l y z.kids j k).map U.cs)),(33,.lst 2 (r.map Stp.cs)),(34,.i r.length),(35,.i i),(39,.lst 8 (l.map U.cs)),(40,.i l.length),(41,.i j),(46,.lst 8 (z.kids.map U.cs)),(47,.i z.kids.length),(48,.i k)]) (λk c=>κ++tokS c 27 ((zPre l y z.kids j k).length*8)) c bd (Weak.of (by simp[cj,Env.get,AVle,aH,ac]) (by rw[M];simp only[ac];exact SubN.tail (SubN.refl _) _)) (Nat.lt_of_le_of_lt aw (by decide)) (λk q rk c T J an=>?_) (λc T ds=>?_)
      ·have hA:=f255 G q y;have bo:((z.kids.take k).filter λk=>ay k y).length<=k:=Nat.le_trans (length_filter_le _ _) (by rw[length_take];omega);have dl:=J.lt;have be:(aD (l.take j) y).length<=1048576:=Nat.le_trans (Nat.le_add_right _ _) ah;have bh:((z.kids.take k).filter λk=>ay k y).length<=1048576:=Nat.le_trans bo (Nat.le_trans (Nat.le_of_lt dl) aw)
       have e4:(zPre l y z.kids j k).length<=2097152:=by
        rw[p9];exact Nat.add_le_add be bh
       have dc:ay q y=true\/ay q y=false:=by
        cases ay q y
        ·exact .inr rfl
        ·exact .inl rfl
       rcases dc with hc|hc
       ·have ef:zPre l y z.kids j (k+1)=zPre l y z.kids j k++[q]:=pX J hc;rw[hc]at hA;clear cw bb ch ah aw al d0 ac bm hN bo hp aa be bh;rw[M];(repeat' (first|(with_reducible (first|refine ae (λh=>?_) λh=>?_|refine af (λh=>?_) λh=>?_|refine ax (λh=>?_) λh=>?_)<;>(try simp only[DZ]at h))|(with_reducible first|refine AI (by omega) ?_|refine ab hA ?_)|simp only[EV,seval,J.yes,J.le0,J.lt',J.row,an,J.get,Z,q2,D]|simp only[EV,seval,J.yes,J.le0,J.lt',J.row,an,J.get,Z,q2]|(with_reducible intro I F;(try(have E:=F;simp only[EVK]at E;first|(have D:=AI E D)|(have D:=E))))|(with_reducible first|refine ag ?_ ?_|refine ai ?_)|(exfalso;omega)));rename_i e3 cp _ _;refine⟨[q.cs],rfl,by simp[ra],by simp,?_⟩;refine nT (sz:=8) (bytes:=120) (rows:=(zPre l y z.kids j k).map U.cs) (ys:=[q.cs]) (m:=(zPre l y z.kids j k).length*8) [(b7,.cells 85 [.i y.kind,.str y.label]),(N,.cells 25 [.lst 8 (l.map U.cs)])] cp F (M ▸ T) (by rw[length_map]) (M ▸ bs) (by rw[length_map];simp;omega) (λgn dd=>?_);refine ak J gn dd ?_;rw[ef,map_append,length_append];simp only[length_map,map_cons,map_nil,length_append,length_cons,length_nil];exact dT _ _
       ·have ef:zPre l y z.kids j (k+1)=zPre l y z.kids j k:=pT J hc;rw[hc]at hA;clear cw bb ch ah aw al d0 ac bm hN bo hp aa be bh;rw[M];(repeat' (first|(with_reducible (first|refine ae (λh=>?_) λh=>?_|refine af (λh=>?_) λh=>?_|refine ax (λh=>?_) λh=>?_)<;>(try simp only[DZ]at h))|(with_reducible first|refine AI (by omega) ?_|refine ab hA ?_)|simp only[EV,seval,J.yes,J.le0,J.lt',J.row,an,J.get,Z,q2,D]|simp only[EV,seval,J.yes,J.le0,J.lt',J.row,an,J.get,Z,q2]|(with_reducible intro I F;(try(have E:=F;simp only[EVK]at E;first|(have D:=AI E D)|(have D:=E))))|(with_reducible first|refine ag ?_ ?_|refine ai ?_)|(exfalso;omega)));refine ak J c (M ▸ T) ?_;rw[ef];exact Weak.sub (SubN.tail (SubN.refl _) _)
      ·(try simp only[EV,seval,ds,bx]);refine ak Y c (M ▸ T) ?_;rw[bm,M];exact dT _ _
     ·rw[M];(repeat' (first|(with_reducible (first|refine ae (λh=>?_) λh=>?_|refine af (λh=>?_) λh=>?_|refine ax (λh=>?_) λh=>?_)<;>(try simp only[DZ]at h))|(with_reducible refine AI (by omega) ?_)|simp only[EV,seval,d2,hw,Z,q2,D]|simp only[EV,seval,d2,hw,Z,q2]|(with_reducible intro I F;(try(have E:=F;simp only[EVK]at E;first|(have D:=AI E D)|(have D:=E))))|(with_reducible first|refine ag ?_ ?_|refine ai ?_)|(exfalso;omega)));refine ak hx (aD l y) ⟨O.1,Nat.le_trans (gk y l) O.2⟩ ?_;rw[take_length];refine Weak.trans (Weak.sub (σ':=[(N,.cells 25 [.own c 27 8 ((aD l y).map U.cs)])]) (SubN.tail (SubN.cons (SubN.nil _) _) _)) (Weak.st ⟨rfl,rfl,⟨.inr ⟨rfl,rfl⟩,trivial⟩,trivial⟩)
    ·(repeat' (first|(with_reducible (first|refine ae (λh=>?_) λh=>?_|refine af (λh=>?_) λh=>?_|refine ax (λh=>?_) λh=>?_)<;>(try simp only[DZ]at h))|(with_reducible refine AI (by omega) ?_)|simp only[EV,seval,hn,D]|simp only[EV,seval,hn]|(with_reducible intro I F;(try(have E:=F;simp only[EVK]at E;first|(have D:=AI E D)|(have D:=E))))|(with_reducible first|refine ag ?_ ?_|refine ai ?_)|(exfalso;omega)))
     exact d3 _ _ (Or.inl (Or.inl (by rw[O.1];rfl)))
def f61 (u:U) (p:List Stp) (ht:u.Tame) (N:u.flat.length<=1024) (hp:p.length<1000000):Pure G Tryz.prog 61 [.agg u.cs,.lst 2 (p.map Stp.cs)] (.lst 3 (((eL u p).map U.id).map Idd.cs)):=by
 have X:=f134 G u p ht N hp;have O:=kb u p;have M:u.flat.length*u.flat.length<=1048576:=Nat.mul_le_mul N N;obtain⟨l,T⟩:∃l,eL u p=l:=⟨_,rfl⟩;rw[T]at X O ⊢;refine Pure.w c61 λR hR=>?_;unfold s61 r61;have aa:l.length<=1048576:=Nat.le_trans O M;clear O M N;(repeat' (first|(with_reducible (first|refine ae (λh=>?_) λh=>?_|refine af (λh=>?_) λh=>?_|refine ax (λh=>?_) λh=>?_)<;>(try simp only[DZ]at h))|(with_reducible first|refine AI (by omega) ?_|refine ab X ?_)|simp only[EV,seval,D]|simp only[EV,seval]|(with_reducible intro J F;(try(have E:=F;simp only[EVK]at E;first|(have D:=AI E D)|(have D:=E))))|(with_reducible first|refine ag ?_ ?_|refine ai ?_)|(exfalso;omega)));refine ap (ι:=Option Nat) l (λi r c=>True) (λi c=>[(5,.own c 23 3 ((l.take i).map λx=>x.id.cs)),(10,.lst 8 (l.map U.cs)),(11,.i l.length),(12,.i i)]) (λi c=>tokS c 23 (i*3)) none trivial (Weak.of (by simp[cj,Env.get,AVle,aH]) (SubN.refl _)) (by omega) (λi x r c V I Z=>?_) (λc V Y=>?_)
 ·have hi:=I.lt;(repeat' (first|(with_reducible (first|refine ae (λh=>?_) λh=>?_|refine af (λh=>?_) λh=>?_|refine ax (λh=>?_) λh=>?_)<;>(try simp only[DZ]at h))|(with_reducible refine AI (by omega) ?_)|simp only[EV,seval,I.yes,I.le0,I.lt',I.row,Z,I.get,D]|simp only[EV,seval,I.yes,I.le0,I.lt',I.row,Z,I.get]|(with_reducible intro J F;(try(have E:=F;simp only[EVK]at E;first|(have D:=AI E D)|(have D:=E))))|(with_reducible first|refine ag ?_ ?_|refine ai ?_)|(exfalso;omega)));refine aZ (n:=i) (m':=(i+1)*3) (by first|exact aS|exact bp (by assumption)|exact mZ (by assumption) (by assumption)) (by rw[length_map,length_take];omega) rfl rfl rfl (by assumption) (by omega) (λgn=>?_);refine ak I gn trivial ?_;simp only[I.take,map_append,map_cons,map_nil];exact dT _ _
 ·(repeat' (first|(with_reducible (first|refine ae (λh=>?_) λh=>?_|refine af (λh=>?_) λh=>?_|refine ax (λh=>?_) λh=>?_)<;>(try simp only[DZ]at h))|(with_reducible refine AI (by omega) ?_)|simp only[EV,seval,Y,D]|simp only[EV,seval,Y]|(with_reducible intro J F;(try(have E:=F;simp only[EVK]at E;first|(have D:=AI E D)|(have D:=E))))|(with_reducible first|refine ag ?_ ?_|refine ai ?_)|(exfalso;omega)));exact hR _ _ (Or.inl (Or.inr ⟨rfl,by rw[take_length,map_map];rfl⟩))
def f26 (u:U) (p:List Stp) (T:u.Tame) (N:u.flat.length<=1024) (O:p.length<1000000):Pure G Tryz.prog 26 [.agg u.cs,.lst 2 (p.map Stp.cs)] (jV u p):=by
 have J:=f61 G u p T N O;refine Pure.w c26 λR I=>?_;unfold s26 r26;unfold jV one at I;have V:(eL u p).length<=1048576:=Nat.le_trans (kb u p) (Nat.mul_le_mul N N);generalize eL u p=l at*
 rcases l with _|⟨x,_|⟨y,l⟩⟩
 ·simp only[map_nil]at J I;(repeat' (first|(with_reducible (first|refine ae (λh=>?_) λh=>?_|refine af (λh=>?_) λh=>?_|refine ax (λh=>?_) λh=>?_)<;>(try simp only[DZ]at h))|(with_reducible first|refine AI (by omega) ?_|refine ab J ?_)|simp only[EV,seval,D]|simp only[EV,seval]|(with_reducible intro M F;(try(have E:=F;simp only[EVK]at E;first|(have D:=AI E D)|(have D:=E))))|(with_reducible first|refine ag ?_ ?_|refine ai ?_)|(exfalso;omega)))
  all_goals exact I _ _ (Or.inl (Or.inl rfl))
 ·simp only[map_cons,map_nil,Idd.cs]at J I;(repeat' (first|(with_reducible (first|refine ae (λh=>?_) λh=>?_|refine af (λh=>?_) λh=>?_|refine ax (λh=>?_) λh=>?_)<;>(try simp only[DZ]at h))|(with_reducible first|refine AI (by omega) ?_|refine ab J ?_)|simp only[EV,seval,D]|simp only[EV,seval]|(with_reducible intro M F;(try(have E:=F;simp only[EVK]at E;first|(have D:=AI E D)|(have D:=E))))|(with_reducible first|refine ag ?_ ?_|refine ai ?_)|(exfalso;omega)))
  all_goals first|exact I _ _ (Or.inl (Or.inl rfl))|(exfalso;omega)
 ·simp only[map_cons,Idd.cs]at J I;(repeat' (first|(with_reducible (first|refine ae (λh=>?_) λh=>?_|refine af (λh=>?_) λh=>?_|refine ax (λh=>?_) λh=>?_)<;>(try simp only[DZ]at h))|(with_reducible first|refine AI (by omega) ?_|refine ab J ?_)|simp only[EV,seval,D]|simp only[EV,seval]|(with_reducible intro M F;(try(have E:=F;simp only[EVK]at E;first|(have D:=AI E D)|(have D:=E))))|(with_reducible first|refine ag ?_ ?_|refine ai ?_)|(exfalso;omega)))
  all_goals first|exact I _ _ (Or.inl (Or.inl rfl))|(exfalso;omega)
end
section
variable (G:Glob)
set_option maxHeartbeats 2000000 in
def f304 (F:Nat) (a b:Int):∀(u:U),u.Short->∀n m:Int,0<=n->0<=m->n+1+u.flat.length<=100000000000->m+u.wt<=100000000000->
  aj G Tryz.prog 304 [.p F,.agg u.cs] [(F,.cells 253 (stp4 a b n m))] λr σ'=>r= .agg (U.stamp a b u (n+1) m).1.cs/\
   σ'=[(F,.cells 253 (stp4 a b ((U.stamp a b u (n+1) m).2.1-1) (U.stamp a b u (n+1) m).2.2))]:=by
 refine U.ind λu ih hs n m e3 d0 d2 d1=>?_
 have e0:=hs.1.kids
 have hu:=hs.2 u u.flat_self
 rw[U.flat_eq,length_cons]at d2
 rw[ux]at d1
 have ch:=f348 G F u.head a b (n+1) m hu.2.1 d0 (by omega)
 have cm:=f348 G F u.words a b (n+1) (m+u.head.length) hu.2.2.1 (by omega) (by omega)
 have w1:IntKind.i64.wrap (n+1)=n+1:=av (by omega) (by omega)
 obtain⟨w,hw⟩:∃w,U.stamp a b u (n+1) m=w:=⟨_,rfl⟩
 rw[hw]
 refine ub (R1:=λσ'=>σ'=[(F,.cells 253 (stp4 a b (w.2.1-1) w.2.2))]) ?_
 refine aj.w c304 ?_
 unfold s304 r304
 rw[sL]at hw
 have V:0+u.kids.length*8<=(List.replicate u.kids.length zU).flatten.length:=by rw[cz];simp[zU]
 have aa:(u.kids.map U.cs).flatten.length=u.kids.length*8:=by rw[az _ (jz _),length_map]
 have bk:aJ (List.replicate u.kids.length zU).flatten 0 ((u.kids.map U.cs).take u.kids.length).flatten=(u.kids.map U.cs).flatten:=by
  rw[take_of_length_le (by simp),bg _ _ _ (by rw[aa];exact V),drop_eq_nil_of_le (by rw[aa,cz];simp[zU])];simp
 obtain⟨M,bd⟩:∃M,n+1+1=M:=⟨_,rfl⟩
 obtain⟨J,bb⟩:∃J,m+(u.head.length:Int)+(u.words.length:Int)=J:=⟨_,rfl⟩
 rw[bd,bb]at hw
 obtain⟨S,hS⟩:∃S:Nat->List U×Int×Int,S=λi=>U.stamps a b (u.kids.take i) M J:=⟨_,rfl⟩
 have Z:∀i,(S i).2.1=M+(U.flats (u.kids.take i)).length/\(S i).2.2=J+U.wts (u.kids.take i)/\(S i).1.length=(u.kids.take i).length:=λi=>by rw[hS];exact gR a b _ M J
 obtain⟨L,hL⟩:∃L:Nat->List (List AV),L=λi=>((S i).1++u.kids.drop i).map U.cs:=⟨_,rfl⟩
 have ah:S 0=([],M,J):=by rw[hS];simp only[take_zero,sb]
 have bo:(L 0).flatten=(u.kids.map U.cs).flatten:=by rw[hL];simp only[ah,nil_append,drop_zero]
 have bm:stp4 a b ((S 0).2.1-1) (S 0).2.2=stp4 a b (n+1) (m+(u.head.length:Int)+(u.words.length:Int)):=by
  rw[ah];show stp4 a b (M-1) J=_;rw[bb,←bd];congr 1;omega
 have O:∀i,∀r∈L i,r.length=8:=λi=>by rw[hL];exact jz _
 have N:∀i,i<=u.kids.length->(L i).length=u.kids.length:=λi hi=>by
  rw[hL];simp only[length_map,length_append,length_drop,(Z i).2.2,length_take];omega
 have ad:∀i,i<=u.kids.length->(L i).flatten.length=u.kids.length*8:=λi hi=>by rw[az _ (O i),N i hi]
 rw[hH u]
 (repeat' (first|simp only[EV,seval,w1,D]|simp only[EV,seval,w1]|(with_reducible intro E an;(try(have ac:=an;simp only[EVK]at ac;first|(have D:=AI ac D)|(have D:=ac))))|(with_reducible first|refine ag ?_ ?_|refine ai ?_)|(refine aB [(F,_)] [(_,_),(_,_)] ch.v (hU _) (o6 (perm_append_comm (l₁:=[_]) (l₂:=[_,_]))) (λr1 d3 h1 D=>?_))|(obtain⟨rfl,rfl⟩:=h1)|(simp[Store.keys]at D)|(refine aB [(F,_)] [(_,_),(_,_)] cm.v (hU _) (SubN.refl _) (λr2 e5 h1 D=>?_))|(refine jO (elem:=27) (c:=u.kids.length) (sz:=8) (bytes:=120) (zr:=zU) (z:=.agg #[.i 0,.i 0,.i 0,.i 0,.string .empty,.slice none 0 0,.slice none 0 0,.slice none 0 0]) rfl (by kernel_rfl) (by kernel_rfl) rfl (by omega) (by decide) (by intro τ w;simp[zU,RepL,Rep,Value.cells];rfl) (by omega) (by omega) ?_)|(refine nH (elem:=27) (sz:=8) (ys:=u.kids.map U.cs) u.kids.length (u.kids.map U.cs).flatten (by kernel_rfl) (by kernel_rfl) rfl (if_pos rfl) (.inl ⟨rfl,rfl⟩) (by simp) V bk ?_)))
 all_goals
  rename_i X _ _ _ Y _ _ _ _ _
  have q1:¬F=E:=λe=>D.1.1 e.symm
  have q2:¬Y=E:=λe=>D.1.2.1 e.symm
  have q3:¬X=E:=λe=>D.1.2.2 e.symm
  refine ap u.kids (λi r (c:Unit)=>True) (λi c=>[(0,.p F),(3,.p X),(4,.p Y),(5,.sc (.slice (some ⟨E,0,none⟩) u.kids.length u.kids.length)),(47,.i u.kids.length),(48,.i i)])
   (λi c=>[(E,.cells 27 (L i).flatten),(F,.cells 253 (stp4 a b ((S i).2.1-1) (S i).2.2)),(Y,.cells 27 zU),(X,.cells 27 [.i a,.i b,.i (n+1),.i u.kind,.str u.label,.lst 4 ((aL a b (u.head.map Wd.text) m).map Wd.cs),.lst 4 ((aL a b (u.words.map Wd.text) (m+u.head.length)).map Wd.cs),.lst 8 (u.kids.map U.cs)])]) () trivial (by rw[bo,bm];exact dT _ _) (by omega) (λi k r c _ I hw=>?_) (λc _ hn=>?_)
  ·obtain⟨s1,s2,s3⟩:=Z i
   obtain⟨t1,t2,t3⟩:=Z (i+1);have T:=I.lt
   have aa:(U.flats (u.kids.take (i+1))).length<=(U.flats u.kids).length:=by
    conv=>rhs;rw[←take_append_drop (i+1) u.kids,cE,length_append]
    omega
   have e4:U.wts (u.kids.take (i+1))<=U.wts u.kids:=by
    conv=>rhs;rw[←take_append_drop (i+1) u.kids,td]
    omega
   have dc:(U.flats (u.kids.take (i+1))).length=(U.flats (u.kids.take i)).length+k.flat.length:=by rw[I.take,cE,aF,bH];simp
   have ds:U.wts (u.kids.take (i+1))=U.wts (u.kids.take i)+k.wt:=by rw[I.take,td,sV,tc];simp
   have aw:=ih k I.mem (hs.kid I.mem) ((S i).2.1-1) (S i).2.2 (by omega) (by omega) (by omega) (by omega);rw[show(S i).2.1-1+1=(S i).2.1 by omega]at aw
   have al:S (i+1)=((S i).1++[(U.stamp a b k (S i).2.1 (S i).2.2).1],(U.stamp a b k (S i).2.1 (S i).2.2).2):=by
    simp only[hS];rw[I.take,jc]
   have cp:(L i)[i]? =some k.cs:=by
    rw[hL];simp only[getElem?_map];rw[getElem?_append_right (by rw[s3,length_take];omega),s3,length_take,Nat.min_eq_left (by omega),Nat.sub_self,getElem?_drop,Nat.add_zero,getElem?_eq_getElem T,←I.get k];simp[T]
   have cw:((L i).flatten.drop (0+i*8)).take 8=k.cs:=by simpa using oO (pad:=[]) (O i) cp
   have dd:8<=((L i).flatten.drop (0+i*8)).length:=by rw[length_drop,ad i (by omega)];omega
   have bx:L (i+1)=(L i).set i (U.stamp a b k (S i).2.1 (S i).2.2).1.cs:=by
    have h3:u.kids.drop i=k::u.kids.drop (i+1):=by
     rw[drop_eq_getElem_cons T];congr 1;simpa[T]using I.get k
    have bn:(S i).1.length=i:=by rw[s3,length_take];omega
    rw[hL];simp only[al];rw[h3];simp only[map_append,map_cons,map_nil];rw[set_append_right _ _ (by simp[bn])];simp[bn]
   have bh:aJ (L i).flatten (0+i*8) (U.stamp a b k (S i).2.1 (S i).2.2).1.cs=(L (i+1)).flatten:=by
    rw[bx];rw[Nat.zero_add];simpa using oi (pad:=[]) (O i) (by rw[N i (by omega)];omega) (ra _)
   have e2:=ad i (by omega);(repeat' (first|(with_reducible refine AI (by omega) ?_)|simp only[EV,seval,I.yes,I.le0,I.lt',I.get,hw,cw,q1,q2,q3,bh,D]|(refine aB [(F,_)] [(E,_),(Y,_),(X,_)] aw.v (hU _) (o6 (List.Perm.swap _ _ _)) (λr1 d3 h1 dl=>?_))|(obtain⟨rfl,rfl⟩:=h1)))
   all_goals
    refine ak I () trivial ?_
    rw[al]
    exact Weak.sub (o6 (List.Perm.swap _ _ _))
  ·have be:S u.kids.length=U.stamps a b u.kids M J:=by simp only[hS];rw[take_length]
   have bw:L u.kids.length=(U.stamps a b u.kids M J).1.map U.cs:=by rw[hL];simp only[be,drop_length,append_nil]
   have e1:(U.stamps a b u.kids M J).1.length=u.kids.length:=(gR a b u.kids M J).2.2;have p1:¬E=Y:=D.1.2.1;have p2:¬E=X:=D.1.2.2;have p3:¬F=Y:=D.2.1.1;have p4:¬F=X:=D.2.1.2;have p5:¬Y=X:=D.2.2;(repeat' (simp only[EV,seval,hn,q1,q2,q3,p1,p2,p3,p4,p5,D]));refine rQ (σ':=[(E,.cells 27 (L u.kids.length).flatten)]++[(F,.cells 253 (stp4 a b ((S u.kids.length).2.1-1) (S u.kids.length).2.2))]) (SubN.left (σ:=[_,_]) (τ:=[_,_])) ⟨_,_,_,rfl,?_,rfl,?_⟩
   ·rw[←hw,hH];exact⟨.inl rfl,.inl rfl,.inl rfl,.inl rfl,.inl rfl,.inl rfl,.inl rfl,.inr ⟨27,8,L u.kids.length,_,bW.mk0 (N _ (Nat.le_refl _)).symm (by rw[N _ (Nat.le_refl _)];unfold maxLen;omega) (O _),λq hq=>hq,by rw[bw]⟩,trivial⟩
   ·rw[be,←hw]
def f207 (u:U) (a b:Int) (I:u.Short) (V:u.wt<=90000000000):Pure G Tryz.prog 207 [.agg u.cs,.i a,.i b] (.agg (bi u a b).cs):=by
 have T:=I.1.2;refine Pure.w c207 λR N=>?_;unfold s207 r207;(repeat' (first|simp only[EV,seval,D]|simp only[EV,seval]|(with_reducible intro J F;(try(have E:=F;simp only[EVK]at E;first|(have D:=AI E D)|(have D:=E))))|(refine aB [(_,_)] [(_,_)] (f304 G _ a b u I 0 0 (by omega) (by omega) (by omega) (by omega)).v (hU _) (SubN.refl _) (λr1 O M D=>?_))|(obtain⟨rfl,rfl⟩:=M)|(simp[Store.keys]at D)));exact RET.eq N rfl
end
section
variable (G:Glob)
def f309k (σ:Store) (f:Value) (p:Idd->Bool) (l:List Idd) (N:l.length<9000000000000000000) (I:∀x∈l,du G Tryz.prog f [.agg x.cs] σ λr σ'=>r= .bool (p x)/\σ'=σ):
  aj G Tryz.prog 309 [.lst 3 (l.map Idd.cs),.sc f] σ λr σ'=>r= .i (idxF p 0 l)/\σ'=σ:=by
 refine sX c309 λR F=>?_
 unfold s309 r309
 simp only[Idd.cs]at I
 (repeat' (first|(with_reducible (refine ae (λh=>?_) λh=>?_)<;>(try simp only[DZ]at h))|simp only[EV,seval,E.yes,E.le0,E.lt',E.get,E.row,M]|simp only[EV,seval,J]|simp only[EV,seval]|(refine ak E () ?_ (dT _ _))|(refine ap l (λi r (c:Unit)=>idxF p 0 l=idxF p i r) (λi c=>[(0,.lst 3 (l.map Idd.cs)),(1,.sc f),(7,.i l.length),(8,.i i)]) (λ_ _=>σ) () rfl (dT _ _) (by omega) (λi x r c D E M=>?_) (λc D J=>?_))|(refine dw (I _ E.mem) ?_)))
 ·refine F _ _ (.inl (.inl ?_)) (SubN.refl _)
  rw[D,idxF,if_pos h]
 ·rw[D,idxF,h];rfl
 ·refine F _ _ (.inl (.inl ?_)) (SubN.refl _)
  rw[D];rfl
def f212k (σ:Store) (f:Value) (p:Idd->Bool) (l:List Idd) (I:l.length<9000000000000000000) (F:∀x∈l,du G Tryz.prog f [.agg x.cs] σ λr σ'=>r= .bool (p x)/\σ'=σ):
  aj G Tryz.prog 212 [.lst 3 (l.map Idd.cs),.sc f] σ λr σ'=>r= .bool (l.any p)/\σ'=σ:=by
 refine sX c212 λR E=>?_
 unfold s212 r212
 have D:=f309k G σ f p l I F
 (repeat' (first|simp only[EV,seval]|(refine dw D.v ?_)))
 exact E _ _ (.inl (.inl (congrArg AV.bool (dZ p l 0)))) (SubN.refl _)
def f310 (l:List Idd) (k:Idd) (M:l.length<9000000000000000000):Pure G Tryz.prog 310 [.lst 3 (l.map Idd.cs),.agg k.cs] (.i (idxF (λx=>decide (k=x)) 0 l)):=by
 refine Pure.w c310 λR F=>?_;unfold s310 r310;(repeat' (first|(with_reducible (refine ae (λh=>?_) λh=>?_)<;>(try simp only[DZ]at h))|simp only[EV,seval,am,E.yes,E.le0,E.lt',E.get,E.row,J]|simp only[EV,seval,am,I]|simp only[EV,seval,am]|(refine ak E () ?_ (dT _ _))|(refine ap (l) (λi r (c:Unit)=>idxF (λx=>decide (k=x)) 0 l=idxF (λx=>decide (k=x)) i r) (λi c=>[(0,.lst 3 (l.map Idd.cs)),(3,.ref k.cs),(7,.i l.length),(8,.i i)]) (λ_ _=>[]) () (by rfl) (dT _ _) (by omega) (λi x r c D E J=>?_) (λc D I=>?_))))
 ·refine RET.eq F ?_;rw[D,idxF,if_pos (decide_eq_true h)]
 ·rw[D,idxF,if_neg (by simpa using h)]
 ·refine RET.eq F ?_;rw[D];rfl
def f214 (l:List Idd) (k:Idd) (I:l.length<9000000000000000000):Pure G Tryz.prog 214 [.lst 3 (l.map Idd.cs),.agg k.cs] (.bool (decide (k∈l))):=by
 have D:=f310 G l k I;simp only[Idd.cs]at D;refine Pure.w c214 λR E=>?_;unfold s214 r214;(repeat' (first|(with_reducible refine ab D ?_)|simp only[EV,seval]));refine RET.eq E (congrArg AV.bool ?_);rw[dZ,Bool.eq_iff_iff,any_eq_true,decide_eq_true_eq];constructor
 ·rintro⟨x,J,F⟩;rw[of_decide_eq_true F];exact J
 ·intro h;exact⟨k,h,decide_eq_true rfl⟩
def f213 (b:Nat) (l:List Idd) (k:Idd) (F:l.length<9000000000000000000):aj G Tryz.prog 213 [.agg k.cs,.p b] [(b,.cells 100 [.lst 3 (l.map Idd.cs)])] λr σ'=>r= .bool (decide (k∈l))/\σ'=[(b,.cells 100 [.lst 3 (l.map Idd.cs)])]:=by
 have D:=f214 G l k F;simp only[Idd.cs]at D;refine sX c213 λR E=>?_;unfold s213 r213;(repeat' (first|(with_reducible refine ab D ?_)|simp only[EV,seval]));exact E _ _ (rW _) (SubN.refl _)
def f305 (b:Nat) (x k:U):aj G Tryz.prog 305 [.agg k.cs,.p b] [(b,.cells 27 x.cs)] λr σ'=>r= .bool (decide (k.kind=x.kind)&&decide (k.label=x.label))/\σ'=[(b,.cells 27 x.cs)]:=by
 refine sX c305 λR D=>?_;unfold s305 r305;rw[hH x]at D ⊢;(repeat' (first|(with_reducible (refine af (λh=>?_) λh=>?_)<;>(try simp only[DZ]at h))|simp only[EV,seval]))
 all_goals(refine D _ _ (.inl (.inl (congrArg AV.bool ?_))) (SubN.refl _);simp[*])
variable (hG:GOk G)
include hG
def f208 (p x:U) (V:p.kids.length<1000000):Pure G Tryz.prog 208 [.agg p.cs,.agg x.cs] (.i (bR p p.kids x)):=by
 have N:=f156 G hG p.kind x.kind;refine Pure.w c208 λR J=>?_;unfold s208 r208;unfold bR cU at J;rw[hH p,hH x]
 cases O:nests p.kind x.kind with
 |false=>
  rw[O]at N J;(repeat' (first|(with_reducible refine ab N ?_)|simp only[EV,seval,E]|simp only[EV,seval]|(with_reducible intro I D;(try(have F:=D;simp only[EVK]at F;(have E:=F))))))
  all_goals exact RQ J
 |true=>
  rw[O]at N J;simp only[Bool.true_eq_false,if_false]at J;(repeat' (first|(with_reducible refine ab N ?_)|simp only[EV,seval,E]|simp only[EV,seval]|(with_reducible intro I D;(try(have F:=D;simp only[EVK]at F;(have E:=F))))));have M:=f289k G [(I,.cells 27 x.cs)] (.func (.func 305) #[] #[.p I]) (λk=>decide (k.kind=x.kind)&&decide (k.label=x.label)) p.kids (by omega)
   (λy X=>⟨_,_,_,rfl,f305 G I x y⟩)
  rw[hH x]at M
  cases T:(p.kids.any λk=>decide (k.kind=x.kind)&&decide (k.label=x.label))with
  |false=>
   rw[T]at M J;(repeat' (first|simp only[EV,seval,E]|(refine dw M.v ?_)))
   all_goals exact RQ J
  |true=>
   rw[T]at M J;(repeat' (first|simp only[EV,seval,E]|(refine dw M.v ?_)))
   all_goals exact RQ J
omit hG
def f209 (u:U) (q:Idd) (x:U) (E:u.Tame) (F:x.Tame):Pure G Tryz.prog 209 [.agg u.cs,.agg q.cs,.agg x.cs] (.bool (decide (8<(((anc q u).length:Int)+1+x.dep)))):=by
 have D:=f288 G q u E;have J:=f194 G x F;simp only[Idd.cs]at D
 have O:(anc q u).length<=u.flat.length:=by
  unfold anc;rw[length_reverse,length_map,length_dropLast];have:=eE q u;omega
 have T:=E.2;have I:=x.dep_cnt;have V:=F.2;have X:=x.dep_ge;unfold U.cnt at I;have N:IntKind.i64.wrap (((anc q u).length:Int)+1)=((anc q u).length:Int)+1:=av (by omega) (by omega);have w2:IntKind.i64.wrap (((anc q u).length:Int)+1+x.dep)=((anc q u).length:Int)+1+x.dep:=av (by omega) (by omega);refine Pure.w c209 λR M=>?_;unfold s209 r209;(repeat' (first|(with_reducible first|refine ab D ?_|refine ab J ?_)|simp only[EV,seval,N,w2]))
 all_goals exact RQ M
end
end Go.Av
