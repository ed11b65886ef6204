/-
  ENACT, plain law 9: an act's items as they are enacted.
-/
import Derived.Test.YtcecmifknojgeaaGreatDoorXE14toXC7
import Derived.Test.YtcecmifknojgeaaGreatDoorXL29toXL51
import Derived.Test.YtcecmifknojgeaaGreatDoorXM38toXN6
namespace Go.Av
open Go Go.RowKit Go.Proofs List
set_option linter.unusedSimpArgs false
set_option linter.unusedVariables false
def cy (a:Ac):Nat->List Itm->List Dd
 |_,[]=>[]
 |i,x::l=>⟨a.number,(i:Int),a.day,x⟩::cy a (i+1) l
def Ac.deeds (a:Ac):List Dd:=cy a 0 a.items
theorem df (a:Ac):∀(l:List Itm) (i:Nat),(cy a i l).length=l.length
 |[],_=>rfl
 |x::l,i=>by rw[cy,length_cons,length_cons,df a l (i+1)]
theorem iC (a:Ac):∀(l m:List Itm) (i:Nat),cy a i (l++m)=cy a i l++cy a (i+l.length) m
 |[],m,i=>rfl
 |x::l,m,i=>by
  rw[cons_append,cy,iC a l m (i+1),cy,cons_append,length_cons]
  congr 3
  omega
theorem kv (a:Ac):∀{l:List Itm} {i:Nat} {d:Dd},d∈cy a i l->d.it∈l
 |[],_,d,h=>by cases h
 |x::l,i,d,h=>by
  rw[cy]at h
  rcases mem_cons.1 h with rfl|h
  ·simp
  ·exact mem_cons_of_mem _ (kv a h)
theorem Fits.wide {n b:Nat} (h1:b<=1048576) (h2:n*b<=211106232532992):Fits n b:=.inr ⟨h1,h2⟩
section
variable (G:Glob)
theorem f23 (a:Ac) (hl:a.items.length*368<=140737488351232):Pure G Tryz.prog 23 [.agg a.cs] (.lst 28 (a.deeds.map Dd.cs)):=by
 unfold Ac.cs
 refine Pure.w c23 λR hR=>?_
 unfold s23 r23
 (repeat' (first|simp only[EVz,seval,↓reduceIte,EV6,EV7,hx.yes,hx.le0,hx.lt',hx.get,hx.row,hw]|simp only[EVz,seval,↓reduceIte,EV6,EV7,hn]|simp only[EVz,seval,↓reduceIte,EV6,EV7]|(with_reducible intro blk hblk;(try(have hnx:=hblk;simp only[EVK]at hnx;(have hne:=hnx))))|(refine⟨[],rfl,(by simp),rfl,?_⟩)|(refine Zq (ι:=Option Nat) a.items (λi r c=>True) (λi c=>[(1,.ref [.int .i64 a.number,.str a.title,.int .i64 a.day,.int .i64 a.start.kind,.int .i64 a.start.day,.str a.start.event,.lst 25 (a.items.map Itm.cs)]),(3,.own c 36 28 ((cy a 0 (a.items.take i)).map Dd.cs)),(4,.int .i64 i)]) (λi c=>tokS c 36 (i*28)) (some blk) trivial (Weak.rfl' _ _) (by omega) (λi x r c hok hx hw=>?_) (λc hok hn=>?_))|fail))
 ·have hi:=hx.lt
  have hxl:=Itm.cs_len x
  refine app_rowF (n:=i) (m':=(i+1)*28) bI (by rw[length_map,df,length_take];omega) rfl rfl (by simp[hxl]) (by assumption) ?_ (λgn=>?_)
  ·refine Fits.wide (Nat.le_of_ble_eq_true rfl) ?_
   have h1:a.items.length<=382438827042:=by omega
   clear hl
   omega
  refine af hx gn trivial ?_
  have e:(cy a 0 (a.items.take (i+1))).map Dd.cs=(cy a 0 (a.items.take i)).map Dd.cs++[Dd.cs ⟨a.number,(i:Int),a.day,x⟩]:=by
   have h1:(a.items.take i).length=i:=by rw[length_take];omega
   rw[hx.take,iC,h1,Nat.zero_add,map_append]
   rfl
  rw[e]
  exact Weak.rfl' _ _
 ·exact hR _ _ (Or.inl (Or.inr ⟨rfl,by rw[take_length];rfl⟩))
theorem f24 (hG:GOk G) (u:U) (hu:Good u) (a:Ac) (hl:a.items.length<1000000) (hs:∀d∈a.deeds,d.it.Shorts):Pure G Tryz.prog 24 [.agg u.cs,.agg a.cs] (jc (allP u a.deeds)):=by
 have hA:=f17 G hG u hu a.deeds (by unfold Ac.deeds;rw[df];exact hl) hs
 unfold Ac.cs
 refine Pure.w c24 λR hR=>?_
 unfold s24 r24
 unfold jc at hA hR
 (repeat' (first|simp only[EVz,seval,↓reduceIte,EV6,EV7]|(with_reducible intro blk hblk;(try(have hnx:=hblk;simp only[EVK]at hnx;(have hne:=hnx))))|fail))
 generalize hbe:blk=b4 at*
 refine Zq (ι:=Option Nat) a.items (λi r c=>∀d,c=some d->d∉Store.keys [(b4,AObj.cells 27 zU)]) (λi c=>[(2,.ref u.cs),(3,.ref [.int .i64 a.number,.str a.title,.int .i64 a.day,.int .i64 a.start.kind,.int .i64 a.start.day,.str a.start.event,.lst 25 (a.items.map Itm.cs)]),(4,.sc (.pointer (some ⟨b4,0,none⟩))),(6,.own c 36 28 ((cy a 0 (a.items.take i)).map Dd.cs)),(10,.lst 25 (a.items.map Itm.cs)),(11,.int .i64 a.items.length),(12,.int .i64 i)]) (λi c=>[(b4,.cells 27 zU)]++tokS c 36 (i*28)) none (by simp) (Weak.of (by simp[cQ,Env.get,AVle,aP,cy]) (SubN.refl _)) (by omega) (λi x r c hok hx hw=>?_) (λc hok hn=>?_)
 ·have hi:=hx.lt
  have hxl:=Itm.cs_len x
  clear hne hnx hblk
  have hne:=True.intro
  (repeat' (first|simp only[EVz,seval,↓reduceIte,EV6,EV7,hx.yes,hx.le0,hx.lt',hx.get,hx.row,hw,hxl,Itm.cs_eq,hne]|(with_reducible intro blk hblk;(try(have hnx:=hblk;simp only[EVK]at hnx;(have hne:=AI hnx hne))))|fail))
  obtain⟨m1,m2,_⟩:=hne
  have hm3:∀d,c=some d->d∈(tokS c 36 (i*28)).keys:=by
   intro d hd
   rw[hd]
   simp[tokS,Store.keys]
  refine⟨[Dd.cs ⟨a.number,(i:Int),a.day,x⟩],rfl,by simp[Dd.cs,hxl],by simp[Dd.cs,Itm.cs_eq],?_⟩
  refine jH (sz:=28) (bytes:=392) (rows:=(cy a 0 (a.items.take i)).map Dd.cs) (ys:=[Dd.cs ⟨a.number,(i:Int),a.day,x⟩]) (m:=i*28) [(blk,_)] [(_,_),(b4,_)] ?_ ?_ (by rw[length_map,df,length_take,Nat.min_eq_left (by omega)]) ?_ (by rw[length_map,df,length_take];simp;omega) (λgn hgn=>?_)
  ·intro p hp
   simp only[mem_singleton]at hp
   subst hp
   simp[Store.keys,m1]
   simpa[Store.keys]using m1.2.2
  ·intro d hd
   have h1:=hm3 d hd
   have h2:=hok d hd
   simp[Store.keys]at h2 ⊢
   exact⟨λq=>m2.2 (q ▸ h1),h2⟩
  ·simp[Store.keys,m2]
  (repeat' (simp only[EVz,seval,↓reduceIte,EV6,EV7,m1,m2,hw,hne]))
  have e:(cy a 0 (a.items.take (i+1))).map Dd.cs=(cy a 0 (a.items.take i)).map Dd.cs++[Dd.cs ⟨a.number,(i:Int),a.day,x⟩]:=by
   have h1:(a.items.take i).length=i:=by rw[length_take];omega
   rw[hx.take,iC,h1,Nat.zero_add,map_append]
   rfl
  have e2:((cy a 0 (a.items.take i)).map Dd.cs++[Dd.cs ⟨a.number,(i:Int),a.day,x⟩]).length=i+1:=by
   rw[←e,length_map,df,length_take];omega
  refine af hx gn ?_ ?_
  ·intro d hd
   have:=hgn d hd
   simp[Store.keys]at this ⊢
   exact this.2
  ·rw[e2,←e]
   exact Weak.sub (SubN.tail (SubN.refl _) _)
 ·(repeat' (first|simp only[EVz,seval,↓reduceIte,EV6,EV7,hn,hne]|(refine aC hA ⟨AVle.rfl' _,.inl (.inr ⟨rfl,by rw[take_length];rfl⟩),trivial⟩ ?_)|fail))
  exact RQ hR
end
section
variable (G:Glob) (hG:GOk G)
include hG
set_option maxHeartbeats 8000000 in
theorem f7 (u:U) (hfit:u.fit) (a:Ac) (hl:a.items.length*368<=140737488351232) (hb:∀x∈a.items,x.big):Pure G Tryz.prog 7 [.agg u.cs,.agg a.cs] (.bool true):=by
 have hDs:=f23 G a hl
 have hAw:=f10 G hG
 have hB:=f11 G hG u 60 hfit (by omega) (by omega)
 have hdl:a.deeds.length=a.items.length:=by unfold Ac.deeds;rw[df]
 have hbd:∀d∈a.deeds,d.it.big:=λd hd=>hb _ (kv a hd)
 have hF:=f12 G a.deeds (by omega) hbd
 unfold Ac.cs at hDs ⊢
 refine Pure.w c7 λR hR=>?_
 unfold s7 r7
 cases h1:dV u 60 with
 |false=>
  rw[h1]at hB
  (repeat' (first|(with_reducible first|refine ab hDs ?_|refine ab hAw ?_|refine ab hB ?_)|simp only[EVz,seval,↓reduceIte,EV6,EV7]|fail))
  all_goals exact RQ hR
 |true=>
  rw[h1]at hB
  cases h2:fewB a.deeds with
  |false=>
   rw[h2]at hF
   (repeat' (first|(with_reducible first|refine ab hDs ?_|refine ab hAw ?_|refine ab hB ?_|refine ab hF ?_)|simp only[EVz,seval,↓reduceIte,EV6,EV7]|fail))
   all_goals exact RQ hR
  |true=>
   rw[h2]at hF
   have hg:=fM h1
   obtain⟨f1,f2⟩:=lv h2
   have hsh:=λd hd=>ej d.it (hbd d hd) (f1 d hd)
   have hA:=f24 G hG u hg a (by omega) hsh
   have hD:=f18 G hG u hg a.deeds (by omega) hsh
   rw[kN hg]at hD
   have hgv:=(iR (l:=a.deeds) hg).1
   have hml:=m8 a.deeds u
   unfold jc at hA hD
   obtain⟨⟨v,m⟩,hvm⟩:∃z,allP u a.deeds=z:=⟨_,rfl⟩
   rw[hvm]at hA hD hgv hml
   simp only at hA hD hgv hml
   have hSm:=f16 G v hgv.short
   have hMi:=f19 G m (by omega)
   unfold Ac.cs at hA
   (repeat' (first|(with_reducible first|refine ab hDs ?_|refine ab hAw ?_|refine ab hB ?_|refine ab hF ?_|refine ab hA ?_|refine ab hD ?_|refine ab hSm ?_|refine ab hMi ?_)|simp only[EVz,seval,↓reduceIte,EV6,EV7,hne]|simp only[EVz,seval,↓reduceIte,EV6,EV7]|(with_reducible intro blk hblk;(try(have hnx:=hblk;simp only[EVK]at hnx;first|(have hne:=AI hnx hne)|(have hne:=hnx))))|fail))
   all_goals exact RQ hR
end
end Go.Av
