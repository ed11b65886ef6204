/-
  ENACT, M20: words replaced and put in, by the program.
-/
import Derived.Test.YtjolkfjccojnnaaGreatDoorXM25toXM19
import Derived.Test.YtjolkfjccojnnaaGreatDoorXE14toXM13
namespace Go.Av
open Go Go.RowKit Go.Proofs List
set_option linter.unusedSimpArgs false
set_option linter.unusedVariables false
theorem ob (w:List Wd) (fresh:List (List UInt8)) (a b:Int) (gone:Nat) (ps:List Nat) (h:Gaps w.length gone 0 ps):putL w fresh a b gone ps 0=dy w fresh a b gone 0 ps 0:=by
 rw[jx w fresh a b gone ps 0 0 h];simp
theorem editE_two (w:List Wd) (x:Itm) (a b:Int) (hk:x.kind=2) (ho:x.old≠[]):hY w x a b=if bH (occs w x.old) x.nth=[]then ([],4)else if 256<(putL w x.new a b x.old.length (bH (occs w x.old) x.nth) 0).length then ([],6)else (putL w x.new a b x.old.length (bH (occs w x.old) x.nth) 0,0):=by
 unfold hY
 rw[if_neg (by rintro⟨h,_⟩;omega),if_neg (show ¬x.kind=3 by omega),ob _ _ _ _ _ _ (dC (fP ho))]
theorem om (w:List Wd) (x:Itm) (a b:Int) (hk:x.kind=3) (ho:x.old≠[]):hY w x a b=if bH (occs w x.old) x.nth=[]then ([],4)else if 256<(putL w x.new a b 0 ((bH (occs w x.old) x.nth).map (· +x.old.length)) 0).length then ([],6)else (putL w x.new a b 0 ((bH (occs w x.old) x.nth).map (· +x.old.length)) 0,0):=by
 unfold hY
 rw[if_neg (by rintro⟨_,h⟩;exact ho h),if_pos hk,ob _ _ _ _ _ _ (fX (dC (fP ho)))]
theorem py (w:List Wd) (x:Itm) (a b:Int) (hk:x.kind=3) (ho:x.old=[]):hY w x a b=if 256<(putL w x.new a b 0 [0] 0).length then ([],6)else (putL w x.new a b 0 [0] 0,0):=by
 unfold hY
 have e:putL w x.new a b 0 [0] 0=dP a b x.new 0++w:=by rw[putL,putL];simp
 rw[if_pos ⟨hk,ho⟩,e]
section
variable (G:Glob)
theorem f118 (w:List Wd) (x:Itm) (a b:Int) (hw:w.length<=256) (hk:x.kind=2) (ho:x.old≠[]) (hol:x.old.length<=256) (hnl:x.new.length<=256) (hn:0<=x.nth/\x.nth<=256):
  Pure G Tryz.prog 118 [.lst 4 (w.map Wd.cs),.lst 1 (x.old.map srow),.lst 1 (x.new.map srow),.int .i64 x.nth,.int .i64 a,.int .i64 b] (fA (hY w x a b)):=by
 have hP:=f185 G w x.old x.nth (by omega) (by omega) ho hn.1 (by omega)
 have hg:=dC (nth:=x.nth) (fP (w:=w) ho)
 have hol0:1<=x.old.length:=length_pos_iff.2 ho
 have hcl:=eX hol0 (Nat.zero_le _) hg
 rw[editE_two w x a b hk ho]
 obtain⟨ps,hps⟩:∃ps,bH (occs w x.old) x.nth=ps:=⟨_,rfl⟩
 rw[hps]at hP hg hcl ⊢
 have hU:=f186 G w ps x.old.length x.new a b (by omega) (by omega) (by omega) (by omega) hg
 have e1:decide ((x.old.length:Int)=0)=false:=decide_eq_false (by omega)
 have e2:decide (x.nth<0)=false:=decide_eq_false (by omega)
 refine Pure.w c118 λR hR=>?_
 unfold s118 r118
 unfold fA at hR
 rcases Classical.em (ps=[])with h0|h0
 ·subst h0
  rw[if_pos rfl]at hR
  simp only[map_nil]at hP
  (repeat' (first|(with_reducible refine ab hP ?_)|simp only[EVz,seval,↓reduceIte,EV6,EV7,e1,e2]|fail))
  all_goals exact hR _ _ (Or.inr ⟨.inr rfl,.inl rfl,trivial⟩)
 ·rw[if_neg h0]at hR
  have h1:1<=ps.length:=length_pos_iff.2 h0
  have e3:decide ((ps.length:Int)=0)=false:=decide_eq_false (by omega)
  have hpr:(ps.map λn:Nat=>[AV.int .i64 (n:Int)])=ps.map prow:=rfl
  rw[hpr]at hP
  unfold mz at hU
  generalize putL w x.new a b x.old.length ps 0=q at*
  rcases Classical.em (256<q.length)with h2|h2
  ·rw[if_pos h2]at hR hU
   (repeat' (first|(with_reducible first|refine ab hP ?_|refine ab hU ?_)|simp only[EVz,seval,↓reduceIte,EV6,EV7,e1,e2,e3]|fail))
   all_goals exact hR _ _ (Or.inr ⟨.inr rfl,.inl rfl,trivial⟩)
  ·rw[if_neg h2]at hR hU
   (repeat' (first|(with_reducible first|refine ab hP ?_|refine ab hU ?_)|simp only[EVz,seval,↓reduceIte,EV6,EV7,e1,e2,e3]|fail))
   all_goals exact hR _ _ (Or.inl (Or.inl rfl))
set_option maxHeartbeats 2000000 in
theorem f120 (w:List Wd) (x:Itm) (a b:Int) (hw:w.length<=256) (hk:x.kind=3) (hol:x.old.length<=256) (hnl:x.new.length<=256) (hn1:1<=x.new.length) (hn:0<=x.nth/\x.nth<=256) (h0n:x.old=[]->x.nth=0):
  Pure G Tryz.prog 120 [.lst 4 (w.map Wd.cs),.lst 1 (x.old.map srow),.lst 1 (x.new.map srow),.int .i64 x.nth,.int .i64 a,.int .i64 b] (fA (hY w x a b)):=by
 have e2:decide (x.nth<0)=false:=decide_eq_false (by omega)
 have e4:decide ((x.new.length:Int)=0)=false:=decide_eq_false (by omega)
 refine Pure.w c120 λR hR=>?_
 unfold s120 r120
 unfold fA at hR
 rcases Classical.em (x.old=[])with ho|ho
 ·have hU:=f186 G w [0] 0 x.new a b (by omega) (by simp) (by omega) (by omega) ⟨Nat.le_refl _,by omega,trivial⟩
  have e5:decide (x.nth=0)=true:=decide_eq_true (h0n ho)
  have e6:decide (x.nth≠0)=false:=decide_eq_false (by rw[h0n ho];simp)
  have e7:decide ((x.old.length:Int)=0)=true:=decide_eq_true (by rw[ho];rfl)
  rw[py w x a b hk ho]at hR
  unfold mz at hU
  generalize putL w x.new a b 0 [0] 0=q at*
  rcases Classical.em (256<q.length)with h2|h2
  ·rw[if_pos h2]at hR hU
   (repeat' (first|simp only[EVz,seval,↓reduceIte,EV6,EV7,e2,e4,e5,e6,e7,hne]|simp only[EVz,seval,↓reduceIte,EV6,EV7,e2,e4,e5,e6,e7]|(with_reducible intro blk hblk;(try(have hnx:=hblk;simp only[EVK]at hnx;(have hne:=hnx))))|(refine⟨[prow 0],rfl,(by simp[prow]),rfl,?_⟩)|(refine aC hU ⟨.inl (.inl rfl),.inl (.inr ⟨rfl,rfl⟩),.inl (.inl rfl),.inl (.inl rfl),.inl (.inl rfl),.inl (.inl rfl),trivial⟩ ?_)|fail))
   all_goals exact hR _ _ (Or.inr ⟨.inr rfl,.inl rfl,trivial⟩)
  ·rw[if_neg h2]at hR hU
   (repeat' (first|simp only[EVz,seval,↓reduceIte,EV6,EV7,e2,e4,e5,e6,e7,hne]|simp only[EVz,seval,↓reduceIte,EV6,EV7,e2,e4,e5,e6,e7]|(with_reducible intro blk hblk;(try(have hnx:=hblk;simp only[EVK]at hnx;(have hne:=hnx))))|(refine⟨[prow 0],rfl,(by simp[prow]),rfl,?_⟩)|(refine aC hU ⟨.inl (.inl rfl),.inl (.inr ⟨rfl,rfl⟩),.inl (.inl rfl),.inl (.inl rfl),.inl (.inl rfl),.inl (.inl rfl),trivial⟩ ?_)|fail))
   all_goals exact hR _ _ (Or.inl (Or.inl rfl))
 ·have hP:=f185 G w x.old x.nth (by omega) (by omega) ho hn.1 (by omega)
  have hg:=dC (nth:=x.nth) (fP (w:=w) ho)
  have hol0:1<=x.old.length:=length_pos_iff.2 ho
  have hcl:=eX hol0 (Nat.zero_le _) hg
  rw[om w x a b hk ho]at hR
  obtain⟨ps,hps⟩:∃ps,bH (occs w x.old) x.nth=ps:=⟨_,rfl⟩
  rw[hps]at hP hg hcl hR
  have hpr:(ps.map λn:Nat=>[AV.int .i64 (n:Int)])=ps.map prow:=rfl
  rw[hpr]at hP
  have hsz:∀r∈ps.map prow,r.length=1:=by intro r hr;obtain⟨n,_,rfl⟩:=mem_map.1 hr;rfl
  have hC:=f187 G (ps.map prow) hsz (by rw[length_map];omega)
  have hU:=f186 G w (ps.map (· +x.old.length)) 0 x.new a b (by omega) (by rw[length_map];omega) (by omega) (by omega) (fX hg)
  have e7:decide ((x.old.length:Int)=0)=false:=decide_eq_false (by omega)
  rcases Classical.em (ps=[])with h0|h0
  ·subst h0
   rw[if_pos rfl]at hR
   simp only[map_nil]at hP hC
   (repeat' (first|(with_reducible refine ab hP ?_)|simp only[EVz,seval,↓reduceIte,EV6,EV7,e2,e4,e7]|(refine bg [] _ hC.v (aB.rfl' _) (SubN.refl _) (λr1 σ1 h1=>?_))|(obtain⟨base,cap,rfl,hO⟩:=h1)|fail))
   all_goals exact hR _ _ (Or.inr ⟨.inr rfl,.inl rfl,trivial⟩)
  ·rw[if_neg h0]at hR
   have h1:1<=ps.length:=length_pos_iff.2 h0
   have e3:decide ((ps.length:Int)=0)=false:=decide_eq_false (by omega)
   have hml:(ps.map prow).length=ps.length:=length_map ..
   (repeat' (first|(with_reducible refine ab hP ?_)|simp only[EVz,seval,↓reduceIte,EV6,EV7,e2,e4,e7,e3,hml]|(refine az [] [] hC.v (aB.rfl' _) (SubN.refl _) (λr1 σ1 h1 hnd=>?_))|(obtain⟨base,cap,rfl,⟨hO,_⟩|⟨b1,pad,rfl,rfl,hle,hcm,hrl,hln⟩⟩:=h1)|fail))
   ·exfalso
    exact h0 (by simpa using hO)
   ·obtain⟨C,hCd⟩:∃C:Nat->List (List AV),C=λi=>((ps.take i).map (· +x.old.length)++ps.drop i).map prow:=⟨_,rfl⟩
    have hC0:C 0=ps.map prow:=by rw[hCd];simp
    have hCn:C ps.length=(ps.map (· +x.old.length)).map prow:=by rw[hCd];simp
    have hCr:∀i,∀r∈C i,r.length=1:=λi r hr=>by rw[hCd]at hr;obtain⟨n,_,rfl⟩:=mem_map.1 hr;rfl
    have hCl:∀i,i<=ps.length->(C i).length=ps.length:=λi hi=>by rw[hCd];simp;omega
    rw[hml]at hle
    refine Zq ps (λi r (c:Unit)=>True) (λi c=>[(0,.lst 4 (w.map Wd.cs)),(1,.lst 1 (x.old.map srow)),(2,.lst 1 (x.new.map srow)),(4,.int .i64 a),(5,.int .i64 b),(14,.sc (.slice (some ⟨b1,0,none⟩) ps.length cap)),(52,.int .i64 ps.length),(53,.int .i64 i)]) (λi c=>[(b1,.cells 3 ((C i).flatten++pad))]) () trivial (by rw[hC0];exact Weak.rfl' _ _) (by omega) (λi p r c _ hx hwp=>?_) (λc _ hn2=>?_)
    ·have hi:=hx.lt
     have hgi:ps[i]? =some p:=by
      have:=hx.get p
      rw[getElem?_eq_getElem hi]
      simpa[hi]using this
     have hpg:=kM hg hgi
     have hCi:(C i)[i]? =some (prow p):=by
      rw[hCd]
      simp only[getElem?_map]
      rw[getElem?_append_right (by simp;omega)]
      simp only[length_map,length_take,Nat.min_eq_left (Nat.le_of_lt hi),Nat.sub_self,getElem?_drop,Nat.add_zero,hgi]
      rfl
     have hdr:((C i).flatten++pad).drop (0+i*1)= .int .i64 (p:Int)::((C i).flatten++pad).drop (i+1):=by
      have h2:=ny (sz:=1) (pad:=pad) (hCr i) hCi
      have h3:i<((C i).flatten++pad).length:=by rw[length_append,ax _ (hCr i),hCl i (by omega)];omega
      rw[Nat.zero_add,Nat.mul_one,drop_eq_getElem_cons h3]
      rw[Nat.mul_one,drop_eq_getElem_cons h3]at h2
      simp only[take_succ_cons,take_zero,prow]at h2
      injection h2 with h2 _
      rw[h2]
     have hlf:((C i).flatten++pad).length=(ps.map prow).flatten.length+pad.length:=by rw[length_append,ax _ (hCr i),ax _ hsz,hCl i (by omega),hml]
     have hle1:0+i*1+1<=((C i).flatten++pad).length:=by rw[hlf,ax _ hsz,hml];omega
     have wp:IntKind.i64.wrap ((p:Int)+(x.old.length:Int))=((p+x.old.length:Nat):Int):=by rw[au (by omega) (by omega)];omega
     have hset:aH ((C i).flatten++pad) (0+i*1) [.int .i64 ((p+x.old.length:Nat):Int)]=(C (i+1)).flatten++pad:=by
      have h4:C (i+1)=(C i).set i (prow (p+x.old.length)):=by
       have h5:ps.drop i=p::ps.drop (i+1):=by
        rw[drop_eq_getElem_cons hi]
        congr 1
        rw[getElem?_eq_getElem hi]at hgi
        injection hgi
       rw[hCd]
       simp only
       rw[h5,hx.take]
       simp only[map_append,map_cons,map_nil]
       rw[set_append_right _ _ (by simp;omega)]
       have h6:i-(List.map prow ((ps.take i).map (· +x.old.length))).length=0:=by simp;omega
       rw[h6]
       simp
      rw[h4,Nat.zero_add]
      exact nr (sz:=1) (pad:=pad) (hCr i) (by rw[hCl i (by omega)];exact hi) rfl
     (repeat' (first|(with_reducible refine AI (by omega) ?_)|simp only[EVz,seval,↓reduceIte,EV6,EV7,hx.yes,hx.le0,hx.lt',hx.get,hwp,hdr,wp,hset]|(with_reducible refine am ?_)|fail))
     exact af hx () trivial (Weak.rfl' _ _)
    ·(try simp only[EVz,seval,↓reduceIte,EV6,EV7,hn2])
     refine⟨_,_,Weak.freeze (j:=14) (rows:=C ps.length) (pad:=pad) (σ:=[]) rfl (hCr _) (hCl _ (Nat.le_refl _)).symm (by rw[hCl _ (Nat.le_refl _)];exact hle) hcm,?_⟩
     rw[hCn]
     unfold mz at hU
     generalize putL w x.new a b 0 (ps.map (· +x.old.length)) 0=q at*
     rcases Classical.em (256<q.length)with h2|h2
     ·rw[if_pos h2]at hR hU
      (repeat' (first|(with_reducible refine ab hU ?_)|simp only[EVz,seval,↓reduceIte,EV6,EV7,Env.set,Env.get]|fail))
      all_goals exact hR _ _ (Or.inr ⟨.inr rfl,.inl rfl,trivial⟩)
     ·rw[if_neg h2]at hR hU
      (repeat' (first|(with_reducible refine ab hU ?_)|simp only[EVz,seval,↓reduceIte,EV6,EV7,Env.set,Env.get]|fail))
      all_goals exact hR _ _ (Or.inl (Or.inl rfl))
end
theorem er {u:U} (h:Good u) (i:Idd) (q:U×Nat×Nat) (e:aN i u=some q):q.2.2<q.1.kids.length/\q.1.kids.length<=64/\Par i u q.1 q.2.1 q.2.2:=by
 by_cases hi:i∈u.ids
 ·obtain⟨p,d,j⟩:=q
  have hp:=eW u h.nd hi e
  obtain⟨a,k,b,s,_,hj,_⟩:=hp.split
  have hm:=aM u h.nd hp.mem
  rw[hp.fnd]at hm
  refine⟨?_,cl (h.node p hm),hp⟩
  show j<p.kids.length
  rw[s.eq,hj,length_append,length_cons];omega
 ·unfold aN at e
  rw[(dI u).2 hi]at e
  simp at e
theorem good_hk {u:U} (h:Good u):∀i q,aN i u=some q->q.2.2<1000000:=λi q e=>by
 obtain⟨h1,h2,_⟩:=er h i q e
 omega
theorem mY {u:U} (h:Good u) (i:Idd):(fnd i u).kids.length<=64:=by
 by_cases hi:i∈u.ids
 ·exact cl (h.node _ (aM u h.nd hi))
 ·unfold fnd
  rw[(dI u).2 hi]
  simp[noU]
theorem nW {u:U} (h:Good u):∀i w q,spot u i w=some q->q.2<1000000:=λi w q e=>by
 unfold spot at e
 split at e
 ·injection e with e;subst e;simp
 ·split at e
  ·injection e with e;subst e
   have:=mY h i
   simp only;omega
  ·cases hw:aN i u with
   |none=>rw[hw]at e;cases e
   |some r=>
    rw[hw]at e
    obtain⟨h1,h2,_⟩:=er h i r hw
    injection e with e;subst e
    simp only
    split<;>omega
section
variable (G:Glob)
theorem f117 (u:U) (hu:Good u) (i:Idd) (hi:i∈u.ids) (hne0:u.id≠i):Pure G Tryz.prog 117 [.agg u.cs,.agg i.cs] (.agg (dF i u).cs):=by
 have hs:=hu.short
 obtain⟨p,d,j,e1,e2,e3⟩:=aW hu.nd hi hne0
 obtain⟨hj,hk64,_⟩:=er hu i _ e1
 simp only at hj hk64
 have hP:=f124 G i u hs hu.nd
 unfold km at hP
 rw[e1]at hP
 have hW:=λbn=>f114 G _ _ _ p.id u hs hu.nd e3.mem (by rw[e3.fnd];exact d183 G bn j p hj (by omega))
 have hwo:dF i u=U.wth p.id (λy=>{y with kids:=aL y.kids j}) u:=by unfold dF;rw[e1]
 rw[hwo]
 simp only[Idd.cs]at hP hW
 refine Pure.w c117 λR hR=>?_
 unfold s117 r117
 (repeat' (first|(with_reducible refine ab hP ?_)|simp only[EVz,seval,↓reduceIte,EV6,EV7,hne]|simp only[EVz,seval,↓reduceIte,EV6,EV7]|(with_reducible intro blk hblk;(try(have hnx:=hblk;simp only[EVK]at hnx;first|(have hne:=AI hnx hne)|(have hne:=hnx))))|(refine bL [(blk,_)] [(_,_),(_,_)] (hW blk).v (aB.rfl' _) (SubN.refl _) (λr1 σ1 hr hnd2=>?_))|(obtain⟨rfl,rfl⟩:=hr)|(refine⟨_,SubN.refl _,?_⟩)|fail))
 all_goals exact RQ hR
theorem f61 (u:U) (hu:Good u) (x:U) (hi:x.id∈u.ids) (hne0:u.id≠x.id) (d:Dd):Pure G Tryz.prog 61 [.agg u.cs,.agg x.cs,.agg d.cs] (aQ (dF x.id u,0)):=by
 have hW:=f117 G u hu x.id hi hne0
 simp only[Idd.cs]at hW
 unfold Dd.cs
 rw[U.cs_eq x,Itm.cs_eq]
 refine Pure.w c61 λR hR=>?_
 unfold s61 r61
 (repeat' (first|(with_reducible refine ab hW ?_)|simp only[EVz,seval,↓reduceIte,EV6,EV7,hne]|simp only[EVz,seval,↓reduceIte,EV6,EV7]|(with_reducible intro blk hblk;(try(have hnx:=hblk;simp only[EVK]at hnx;(have hne:=hnx))))|fail))
 all_goals exact RQ hR
theorem f62 (u:U) (hu:Good u) (x:U) (hi:x.id∈u.ids) (d:Dd) (hw:x.words.length<=256) (hk:d.it.kind=2) (ho:d.it.old≠[]) (hol:d.it.old.length<=256) (hnl:d.it.new.length<=256) (hn:0<=d.it.nth/\d.it.nth<=256):
  Pure G Tryz.prog 62 [.agg u.cs,.agg x.cs,.agg d.cs] (aQ (if (hY x.words d.it d.act d.item).2≠0 then (u,(hY x.words d.it d.act d.item).2)else (U.wth x.id (λy=>{y with words:=(hY x.words d.it d.act d.item).1}) u,0))):=by
 have hs:=hu.short
 have hE:=f118 G x.words d.it d.act d.item hw hk ho hol hnl hn
 unfold fA at hE
 obtain⟨⟨w,e⟩,hwe⟩:∃q,hY x.words d.it d.act d.item=q:=⟨_,rfl⟩
 rw[hwe]at hE ⊢
 have hW:=λbw=>f114 G _ _ _ x.id u hs hu.nd hi (d119 G bw w _)
 simp only[Idd.cs]at hW hE
 unfold Dd.cs
 rw[U.cs_eq x,Itm.cs_eq]
 refine Pure.w c62 λR hR=>?_
 unfold s62 r62
 simp only at hR
 rcases Classical.em (e=0)with h|h
 ·subst h
  rw[if_neg (by simp)]at hR
  (repeat' (first|(with_reducible refine ab hE ?_)|simp only[EVz,seval,↓reduceIte,EV6,EV7,hne]|simp only[EVz,seval,↓reduceIte,EV6,EV7]|(with_reducible intro blk hblk;(try(have hnx:=hblk;simp only[EVK]at hnx;first|(have hne:=AI hnx hne)|(have hne:=hnx))))|(refine bL [(blk,_)] [(_,_)] (hW blk).v (aB.rfl' _) (SubN.refl _) (λr1 σ1 hr hnd2=>?_))|(obtain⟨rfl,rfl⟩:=hr)|(refine⟨_,SubN.refl _,?_⟩)|fail))
  all_goals exact RQ hR
 ·rw[if_pos h]at hR
  (repeat' (first|(with_reducible (refine ae (λh=>?_) (λh=>?_))<;>(try simp only[Da,Db,Dc,Dw,De,Df,Dg,Dh]at h))|(with_reducible refine ab hE ?_)|simp only[EVz,seval,↓reduceIte,EV6,EV7,h,hne]|simp only[EVz,seval,↓reduceIte,EV6,EV7,h]|(with_reducible intro blk hblk;(try(have hnx:=hblk;simp only[EVK]at hnx;first|(have hne:=AI hnx hne)|(have hne:=hnx))))|(exfalso;omega)|fail))
  all_goals exact RQ hR
theorem f63 (u:U) (hu:Good u) (x:U) (hi:x.id∈u.ids) (d:Dd) (hw:x.words.length<=256) (hk:d.it.kind=3) (hol:d.it.old.length<=256) (hnl:d.it.new.length<=256) (hn1:1<=d.it.new.length) (hn:0<=d.it.nth/\d.it.nth<=256) (h0n:d.it.old=[]->d.it.nth=0):
  Pure G Tryz.prog 63 [.agg u.cs,.agg x.cs,.agg d.cs] (aQ (if (hY x.words d.it d.act d.item).2≠0 then (u,(hY x.words d.it d.act d.item).2)else (U.wth x.id (λy=>{y with words:=(hY x.words d.it d.act d.item).1}) u,0))):=by
 have hs:=hu.short
 have hE:=f120 G x.words d.it d.act d.item hw hk hol hnl hn1 hn h0n
 unfold fA at hE
 obtain⟨⟨w,e⟩,hwe⟩:∃q,hY x.words d.it d.act d.item=q:=⟨_,rfl⟩
 rw[hwe]at hE ⊢
 have hW:=λbw=>f114 G _ _ _ x.id u hs hu.nd hi (d121 G bw w _)
 simp only[Idd.cs]at hW hE
 unfold Dd.cs
 rw[U.cs_eq x,Itm.cs_eq]
 refine Pure.w c63 λR hR=>?_
 unfold s63 r63
 simp only at hR
 rcases Classical.em (e=0)with h|h
 ·subst h
  rw[if_neg (by simp)]at hR
  (repeat' (first|(with_reducible refine ab hE ?_)|simp only[EVz,seval,↓reduceIte,EV6,EV7,hne]|simp only[EVz,seval,↓reduceIte,EV6,EV7]|(with_reducible intro blk hblk;(try(have hnx:=hblk;simp only[EVK]at hnx;first|(have hne:=AI hnx hne)|(have hne:=hnx))))|(refine bL [(blk,_)] [(_,_)] (hW blk).v (aB.rfl' _) (SubN.refl _) (λr1 σ1 hr hnd2=>?_))|(obtain⟨rfl,rfl⟩:=hr)|(refine⟨_,SubN.refl _,?_⟩)|fail))
  all_goals exact RQ hR
 ·rw[if_pos h]at hR
  (repeat' (first|(with_reducible (refine ae (λh=>?_) (λh=>?_))<;>(try simp only[Da,Db,Dc,Dw,De,Df,Dg,Dh]at h))|(with_reducible refine ab hE ?_)|simp only[EVz,seval,↓reduceIte,EV6,EV7,h,hne]|simp only[EVz,seval,↓reduceIte,EV6,EV7,h]|(with_reducible intro blk hblk;(try(have hnx:=hblk;simp only[EVK]at hnx;first|(have hne:=AI hnx hne)|(have hne:=hnx))))|(exfalso;omega)|fail))
  all_goals exact RQ hR
theorem f64 (u:U) (hu:Good u) (x:U) (hi:x.id∈u.ids) (d:Dd) (hnl:d.it.new.length<=256):
  Pure G Tryz.prog 64 [.agg u.cs,.agg x.cs,.agg d.cs] (aQ (U.wth x.id (λy=>{y with head:=dP d.act d.item d.it.new 0}) u,0)):=by
 have hs:=hu.short
 have hE:=f122 G d.it.new d.act d.item 0 (by omega) (by omega) (by omega)
 obtain⟨w,hwe⟩:∃q,dP d.act d.item d.it.new 0=q:=⟨_,rfl⟩
 rw[hwe]at hE ⊢
 have hW:=λbw=>f114 G _ _ _ x.id u hs hu.nd hi (d123 G bw w _)
 simp only[Idd.cs]at hW hE
 unfold Dd.cs
 rw[U.cs_eq x,Itm.cs_eq]
 refine Pure.w c64 λR hR=>?_
 unfold s64 r64
 (repeat' (first|(with_reducible refine ab hE ?_)|simp only[EVz,seval,↓reduceIte,EV6,EV7,hne]|simp only[EVz,seval,↓reduceIte,EV6,EV7]|(with_reducible intro blk hblk;(try(have hnx:=hblk;simp only[EVK]at hnx;first|(have hne:=AI hnx hne)|(have hne:=hnx))))|(refine bL [(blk,_)] [(_,_)] (hW blk).v (aB.rfl' _) (SubN.refl _) (λr1 σ1 hr hnd2=>?_))|(obtain⟨rfl,rfl⟩:=hr)|(refine⟨_,SubN.refl _,?_⟩)|fail))
 all_goals exact RQ hR
variable (hG:GOk G)
include hG
theorem f65 (u:U) (hu:Good u) (x:U) (hx:x=fnd x.id u) (hi:x.id∈u.ids) (hne0:u.id≠x.id) (d:Dd):
  Pure G Tryz.prog 65 [.agg u.cs,.agg x.cs,.agg d.cs] (aQ (if bJ (parR x.id u).1 (parR x.id u).1.kids {x with label:=d.it.label}=10 then (u,10)else (U.wth x.id (λy=>{y with label:=d.it.label}) u,0))):=by
 have hs:=hu.short
 obtain⟨p,dd,j,e1,e2,e3⟩:=aW hu.nd hi hne0
 obtain⟨hj,hk64,_⟩:=er hu _ _ e1
 simp only at hj hk64
 have hP:=f124 G x.id u hs hu.nd
 unfold km at hP
 rw[e1]at hP
 have hF:=f37 G p.id u hs
 unfold i8 at hF
 rw[gf e3.mem,if_neg (by simp),e3.fnd]at hF
 have hT:=f107 G hG p {x with label:=d.it.label} (by omega)
 have hW:=λbd=>f114 G _ _ _ x.id u hs hu.nd hi (d125 G bd d _)
 rw[e2]
 simp only
 obtain⟨t,ht⟩:∃t,bJ p p.kids {x with label:=d.it.label}=t:=⟨_,rfl⟩
 rw[ht]at hT ⊢
 rw[U.cs_eq {x with label:=d.it.label}]at hT
 simp only[Idd.cs]at hW hP hF hT
 unfold Dd.cs at hW ⊢
 rw[Itm.cs_eq]at hW ⊢
 rw[U.cs_eq x]
 refine Pure.w c65 λR hR=>?_
 unfold s65 r65
 rcases Classical.em (t=10)with h|h
 ·subst h
  rw[if_pos rfl]at hR
  (repeat' (first|(with_reducible first|refine ab hP ?_|refine ab hF ?_|refine ab hT ?_)|simp only[EVz,seval,↓reduceIte,EV6,EV7,hne]|simp only[EVz,seval,↓reduceIte,EV6,EV7]|(with_reducible intro blk hblk;(try(have hnx:=hblk;simp only[EVK]at hnx;first|(have hne:=AI hnx hne)|(have hne:=hnx))))|fail))
  all_goals exact RQ hR
 ·rw[if_neg h]at hR
  (repeat' (first|(with_reducible first|refine ab hP ?_|refine ab hF ?_|refine ab hT ?_)|simp only[EVz,seval,↓reduceIte,EV6,EV7,h,hne]|simp only[EVz,seval,↓reduceIte,EV6,EV7,h]|(with_reducible intro blk hblk;(try(have hnx:=hblk;simp only[EVK]at hnx;first|(have hne:=AI hnx hne)|(have hne:=hnx))))|fail))
  rename_i b4 _ _ _ b5 _ _ _ b6 _ _ _ b8 _ _ _
  refine bL [(b5,_)] [_,_,_,_] (hW b5).v (aB.rfl' _) (SubN.perm (perm_middle (l₁:=[_,_,_]) (l₂:=[_])).symm) (λr1 σ1 hr hnd2=>?_)
  obtain⟨rfl,rfl⟩:=hr
  refine⟨_,SubN.refl _,?_⟩
  have q1:¬b5=b6:=by have:=hne;intro e;subst e;simp at this
  (repeat' (simp only[EVz,seval,↓reduceIte,EV6,EV7,q1,hne]))
  all_goals exact RQ hR
end
theorem pD {G:Glob} {P:Program} {f:Value} {args:List AV} {x:Nat×AObj} {σ:Store} {K:AV->Store->Prop} {t:Tag K} {v:AV}
  (h:cZ G P f args [x] λr σ'=>r=v/\σ'=[x]) (hk:K v (x::σ)):CALL G P f args (x::σ) K t:=
 bg [x] σ h (aB.rfl' _) (SubN.refl _) (by rintro _ _ ⟨rfl,rfl⟩;exact hk)
theorem spot_le {u:U} (h:Good u) {i q:Idd} {wh:Int} {k:Nat} (e:spot u i wh=some (q,k)):k<=(fnd q u).kids.length:=by
 unfold spot at e
 split at e
 ·injection e with e;injection e with e1 e2;omega
 ·split at e
  ·injection e with e;injection e with e1 e2;subst e1;omega
  ·obtain⟨⟨p,d,j⟩,e1,e2⟩:=Option.map_eq_some_iff.1 e
   obtain⟨h1,h2,h3⟩:=er h i _ e1
   injection e2 with e3 e4
   subst e3
   rw[h3.fnd]
   show k<=p.kids.length
   change j<p.kids.length at h1
   simp only at e4
   split at e4<;>omega
theorem anc_len {u:U} {q:Idd} (hq:q∈u.ids):(anc q u).length+1=(U.way q u).length:=by
 unfold anc
 rw[length_reverse,length_map,length_dropLast]
 have:=eo hq
 omega
theorem SubN.six {n x a b c d:Nat×AObj}:SubN [n,x,a,b,c,d] [a,x,b,n,c,d]:=
 SubN.perm ((perm_middle (l₁:=[a,x,b]) (l₂:=[c,d])).trans (List.Perm.cons _ (List.Perm.swap _ _ _))).symm
section
variable (G:Glob) (hG:GOk G)
include hG
set_option maxHeartbeats 4000000 in
theorem f60 (u:U) (hu:Good u) (y:U) (d:Dd) (i:Idd) (hO:one u d.it.at_=(i,0)) (hk0:d.it.kind=0) (h0:0<=d.it.wh) (h3:d.it.wh<=3) (hd:Unit0 d) (hp:d.it.at_.length<1000000) (hp2:d.it.to_.length<1000000):
  Pure G Tryz.prog 60 [.agg u.cs,.agg y.cs,.agg d.cs] (aQ (insP u i d)):=by
 have hs:=hu.short
 have hcu:=hu.cnt
 have hi:i∈u.ids:=by have:=bU (u:=u) (p:=d.it.at_);rw[hO]at this;exact this rfl
 have hDe:=f105 G u d.it hs hcu hu.nd (good_hk hu) (nW hu) (.inl hk0) h0 h3 hp hp2
 have hde:dest u d.it=(match spot u i d.it.wh with|none=>.inr 9|some q=>.inl q):=by
  unfold dest
  rw[hO]
  simp[hk0]
  rfl
 rw[hde]at hDe
 unfold insP
 have hsm:=λq k=>kz (q:=q) (k:=k) hu.nd hi (wh:=d.it.wh)
 have hsl:=λq k=>spot_le (q:=q) (k:=k) (i:=i) (wh:=d.it.wh) hu
 obtain⟨z,hz⟩:∃z,spot u i d.it.wh=z:=⟨_,rfl⟩
 rw[hz]at hDe hsm hsl ⊢
 unfold cU at hDe
 unfold Dd.cs
 rw[U.cs_eq y]
 rcases z with _|⟨q,k⟩
 ·refine Pure.w c60 λR hR=>?_
  unfold s60 r60
  unfold aQ at hR
  simp only at hDe hR
  rw[Itm.cs_eq]at hDe ⊢
  (repeat' (first|(with_reducible refine ab hDe ?_)|simp only[EVz,seval,↓reduceIte,EV6,EV7,hne]|simp only[EVz,seval,↓reduceIte,EV6,EV7]|(with_reducible intro blk hblk;(try(have hnx:=hblk;simp only[EVK]at hnx;first|(have hne:=AI hnx hne)|(have hne:=hnx))))|fail))
  all_goals exact RQ hR
 ·have hq:=hsm q k rfl
  have hkl:=hsl q k rfl
  simp only at hDe ⊢
  have hus:=cf hd.nodes (by have:=hd.cnt;omega)
  have hSt:=f106 G d.it.unit d.act d.item hus (by have h1:=wt_le hd.nodes;have h2:=hd.cnt;omega)
  obtain⟨s1,s2,s3,s4,s5⟩:=dW d.it.unit d.act d.item hd.nodes
  obtain⟨x,hx⟩:∃x,l6 d.it.unit d.act d.item=x:=⟨_,rfl⟩
  rw[hx]at hSt s1 s2 s3 s4 s5 ⊢
  have hxs:x.Short:=cf s5 (by rw[s3];have:=hd.cnt;omega)
  have hF:=f37 G q u hs
  unfold i8 at hF
  rw[gf hq,if_neg (by simp)]at hF
  have hfk:=mY hu q
  have hanc:=anc_len hq
  have hDp:=f108 G u q x hs.1 hxs.1
  have hCu:=f109 G u hs.1
  have hCx:=f109 G x hxs.1
  have hIu:=f110 G u hs.1
  have hIx:=f110 G x hxs.1
  have hT:=f107 G hG (fnd q u) x (by omega)
  have hxl:x.ids.length=x.flat.length:=by unfold U.ids;rw[length_map]
  have hul:u.ids.length=u.flat.length:=by unfold U.ids;rw[length_map]
  have hxf:x.flat.length<=1024:=by rw[s3];exact hd.cnt
  have hCF:=λbh=>f111k G [(bh,.cells 72 [.lst 3 (u.ids.map Idd.cs)])] (.func (.func 112) #[] #[.pointer (some ⟨bh,0,none⟩)]) (λk=>decide (k∈u.ids)) x.ids (by omega)
   (λw _=>⟨_,_,_,rfl,f112 G bh u.ids w (by omega)⟩)
  have hW:=λbn bx=>f114 G _ _ _ q u hs hu.nd hq (d115 G bn bx k x _ hkl (by omega))
  have hcx2:(0:Int)<=x.cnt/\x.cnt<=1024:=by unfold U.cnt;omega
  have hcu2:(0:Int)<=u.cnt/\u.cnt<=1024:=by unfold U.cnt;omega
  have w3:IntKind.i64.wrap (u.cnt+x.cnt)=u.cnt+x.cnt:=au (by omega) (by omega)
  rw[←hanc]
  clear s1 s2 s4 hde hsm hsl hfk
  obtain⟨P,hP⟩:∃P,fnd q u=P:=⟨_,rfl⟩
  rw[hP]at hF hT hkl ⊢
  obtain⟨t,ht⟩:∃t,bJ P P.kids x=t:=⟨_,rfl⟩
  rw[ht]at hT ⊢
  obtain⟨an,han⟩:∃an,(anc q u).length=an:=⟨_,rfl⟩
  rw[han]at hDp ⊢
  obtain⟨ex,hex⟩:∃ex,x.ids.any (λk=>decide (k∈u.ids))=ex:=⟨_,rfl⟩
  rw[hex]at hCF ⊢
  simp only[Idd.cs]at hF hDp hW
  rw[U.cs_eq P]at hF hT
  unfold aQ
  rw[show(((an+1:Nat):Int))=(an:Int)+1 by omega]
  refine Pure.w c60 λR hR=>?_
  unfold s60 r60
  rw[Itm.cs_eq]at hDe ⊢
  rw[U.cs_eq d.it.unit]at hSt
  rcases Classical.em (t=0)with h|h
  ·subst h
   rw[if_neg (by simp)]at hR
   (repeat' (first|(with_reducible (first|refine ae (λh=>?_) (λh=>?_)|refine ag (λh=>?_) (λh=>?_))<;>(try simp only[Da,Db,Dc,Dw,De,Df,Dg,Dh]at h))|(with_reducible first|refine ab hDe ?_|refine ab hF ?_|refine ab hSt ?_|refine ab hT ?_|refine ab hDp ?_|refine ab hCu ?_|refine ab hCx ?_|refine ab hIu ?_|refine ab hIx ?_)|simp only[EVz,seval,↓reduceIte,EV6,EV7,w3,hne]|simp only[EVz,seval,↓reduceIte,EV6,EV7,w3]|(with_reducible intro blk hblk;(try(have hnx:=hblk;simp only[EVK]at hnx;first|(have hne:=AI hnx hne)|(have hne:=hnx))))|(with_reducible refine ak ?_ ?_)|(with_reducible refine am ?_)|(refine pD (hCF blk).v ?_)|fail))
   all_goals try(
    refine hR _ _ (.inl (.inl ?_))
    rw[if_pos (by first|exact .inl (by omega)|exact .inr (.inl (by omega))|exact .inr (.inr (by omega)))]
    done)
   all_goals
    have hno:¬(64<=P.kids.length\/8<(an:Int)+1+x.dep\/1024<u.cnt+x.cnt):=by omega
    rw[if_neg hno]at hR
   all_goals try(
    refine hR _ _ (.inl (.inl ?_))
    rw[if_pos (by assumption)]
    done)
   all_goals
    have hexf:ex=false:=by assumption
    rw[hexf]at hR
    simp only[Bool.false_eq_true,if_false]at hR
    refine bL [(_,_),(_,_)] [_,_,_,_] (hW _ _).v (aB.rfl' _) SubN.six (λr1 σ1 hr hnd2=>?_)
    obtain⟨rfl,rfl⟩:=hr
    refine⟨_,SubN.refl _,?_⟩
    (repeat' (simp only[EVz,seval,↓reduceIte,EV6,EV7,hne]))
    all_goals exact RQ hR
  ·rw[if_pos h]at hR
   (repeat' (first|(with_reducible (first|refine ae (λh=>?_) (λh=>?_)|refine ag (λh=>?_) (λh=>?_))<;>(try simp only[Da,Db,Dc,Dw,De,Df,Dg,Dh]at h))|(with_reducible first|refine ab hDe ?_|refine ab hF ?_|refine ab hSt ?_|refine ab hT ?_)|simp only[EVz,seval,↓reduceIte,EV6,EV7,h,hne]|simp only[EVz,seval,↓reduceIte,EV6,EV7,h]|(with_reducible intro blk hblk;(try(have hnx:=hblk;simp only[EVK]at hnx;first|(have hne:=AI hnx hne)|(have hne:=hnx))))|(with_reducible refine ak ?_ ?_)|(with_reducible refine am ?_)|(exfalso;omega)|fail))
   all_goals exact RQ hR
end
theorem nN {u:U} (h:Good u) {i t:Idd} (hi:i∈u.ids) (hne:u.id≠i) (ht:t∈u.ids) {wh:Int} (h0:0<=wh) (h3:wh<=3) {q:Idd} {k:Nat} (e:fk u i t wh=some (q,k)):q∈u.ids/\q∉(fnd i u).ids/\q∈(dF i u).ids:=by
 obtain⟨g1,g2,g3,A,B,hA,e1,e2⟩:=ff h hi hne
 obtain⟨own,dO,j,w1,w2,hp⟩:=aW h.nd hi hne
 obtain⟨a,x,b,s,hx,hj,hl⟩:=hp.split
 have hfx:fnd i u=x:=aF hl
 have hqu:q∈u.ids/\q∉(fnd i u).ids:=by
  unfold fk at e
  rw[w1]at e
  simp only at e
  split at e
  ·cases e
  ·rename_i hc
   rw[not_or]at hc
   split at e
   ·injection e with e;injection e with e3 e4
    subst e3
    refine⟨hp.mem,?_⟩
    rw[hfx]
    have:=(U.nd_kids hp.nd).2
    rw[s.eq,U.idss_app,U.idss_cons]at this
    exact λhm=>this (mem_append.2 (.inr (mem_append.2 (.inl hm))))
   ·rename_i hti
    obtain⟨⟨q',k'⟩,e5,e6⟩:=Option.map_eq_some_iff.1 e
    injection e6 with e7 e8
    subst e7
    have hr:¬(besides wh=true/\t=u.id):=by
     rintro⟨r1,r2⟩
     have hh:wh=2\/wh=3:=by simpa[besides]using r1
     unfold spot at e5
     rw[cB r2.symm]at e5
     rcases hh with hh|hh<;>simp[hh]at e5
    obtain⟨P,dp,k2,hg⟩:=iP h.nd ht h0 h3 hr
    have:=hg.spot
    rw[e5]at this
    injection this with this
    injection this with e9 e10
    simp only at e9 ⊢
    rw[e9]
    refine⟨hg.mem,hg.out i hi λhm=>?_⟩
    exact hc.1 ((gI u h.nd ht hi).2 ⟨hti,hm⟩)
 refine⟨hqu.1,hqu.2,?_⟩
 rw[e2]
 have:=hqu.1
 rw[e1]at this
 rcases mem_append.1 this with hm|hm
 ·exact mem_append.2 (.inl hm)
 ·rcases mem_append.1 hm with hm|hm
  ·exact absurd hm hqu.2
  ·exact mem_append.2 (.inr hm)
theorem nP {i:Idd} {f:U->U}:∀us:List U,(U.wths i f us).length=us.length
 |[]=>by rw[U.wths_nil]
 |u::us=>by
  rw[U.wths_cons]
  split
  ·rw[length_cons,length_cons,nP us]
  ·rfl
theorem oH {u:U} (h:Good u) {i q:Idd} (hi:i∈u.ids) (hne:u.id≠i) (hq:q∈u.ids) (hqi:q∉(fnd i u).ids) {own:U} {dO j:Nat} (w1:aN i u=some (own,dO,j)):
  (fnd q (dF i u)).kids.length=if q=own.id then own.kids.length-1 else (fnd q u).kids.length:=by
 have hp:=eW u h.nd hi w1
 obtain⟨a,x,b,s,hx,hj,hl⟩:=hp.split
 have hfx:fnd i u=x:=aF hl
 rw[hfx]at hqi
 have hW:dF i u=U.wth own.id (λy=>{y with kids:=aL y.kids j}) u:=by unfold dF;rw[w1]
 subst hj
 have hway:=jg (t:=q) h.nd hp s.eq hqi
 have hlast:=(dj u h.nd hq).2
 have hf2:fnd q (dF i u)=U.wth own.id (λy=>{y with kids:=aL y.kids a.length}) (fnd q u):=by
  rw[hW]
  refine aF ?_
  rw[hway,getLast?_map,hlast,Option.map_some]
 rw[hf2]
 by_cases hqo:q=own.id
 ·subst hqo
  rw[if_pos rfl,hp.fnd,aZ rfl,s.eq]
  simp only
  rw[bG,length_append,length_append,length_cons];omega
 ·rw[if_neg hqo,U.wth_eq,if_neg (by rw[(dj u h.nd hq).1];exact hqo)]
  exact nP _
theorem goes_le {u:U} (h:Good u) {i t:Idd} (hi:i∈u.ids) (hne:u.id≠i) (ht:t∈u.ids) {wh:Int} (h0:0<=wh) (h3:wh<=3) {q:Idd} {k:Nat} (e:fk u i t wh=some (q,k)):k<=(fnd q (dF i u)).kids.length:=by
 obtain⟨m1,m2,m3⟩:=nN h hi hne ht h0 h3 e
 obtain⟨own,dO,j,w1,w2,hp⟩:=aW h.nd hi hne
 obtain⟨p1,p2,_⟩:=er h i _ w1
 change j<own.kids.length at p1
 rw[oH h hi hne m1 m2 w1]
 unfold fk at e
 rw[w1]at e
 simp only at e
 split at e
 ·cases e
 ·split at e
  ·injection e with e;injection e with e3 e4
   rw[if_pos e3.symm];omega
  ·obtain⟨⟨q',k'⟩,e5,e6⟩:=Option.map_eq_some_iff.1 e
   have hsl:=spot_le h e5
   injection e6 with e7 e8
   simp only at e7 e8
   subst e7
   by_cases hqo:q'=own.id
   ·rw[if_pos hqo]
    rw[hqo,hp.fnd]at hsl
    split at e8
    ·omega
    ·rename_i hc
     have:¬j<k':=λhjk=>hc ⟨hqo,hjk⟩
     omega
   ·rw[if_neg hqo]
    split at e8
    ·rename_i hc;exact absurd hc.1 hqo
    ·omega
end Go.Av
