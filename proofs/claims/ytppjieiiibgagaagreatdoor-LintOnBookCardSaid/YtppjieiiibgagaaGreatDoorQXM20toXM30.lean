/-
  ENACT, M20: words replaced and put in, by the program.
-/
import Derived.Test.YtppjieiiibgagaaGreatDoorQXM25toXM19
import Derived.Test.YtppjieiiibgagaaGreatDoorQXM11toXL44
set_option linter.all false
namespace Go.Av
open Go Go.RowKit Go.Proofs List
def oR (w:List Wd) (D:List (List UInt8)) (a b:Int) (E:Nat) (ps:List Nat) (h:Gaps w.length E 0 ps):putL w D a b E ps 0=dK w D a b E 0 ps 0:=by
 rw[j8 w D a b E ps 0 0 h];simp
def editE_two (w:List Wd) (x:Itm) (a b:Int) (E:x.kind=2) (D:x.old≠[]):bu w x a b=if bP (occs w x.old) x.nth=[]then ([],4)else if 256<(putL w x.new a b x.old.length (bP (occs w x.old) x.nth) 0).length then ([],6)else (putL w x.new a b x.old.length (bP (occs w x.old) x.nth) 0,0):=by
 unfold bu;rw[if_neg (by rintro⟨h,_⟩;omega),if_neg (show ¬x.kind=3 by omega),oR _ _ _ _ _ _ (dL (ga D))]
def qk (w:List Wd) (x:Itm) (a b:Int) (E:x.kind=3) (D:x.old≠[]):bu w x a b=if bP (occs w x.old) x.nth=[]then ([],4)else if 256<(putL w x.new a b 0 ((bP (occs w x.old) x.nth).map (· +x.old.length)) 0).length then ([],6)else (putL w x.new a b 0 ((bP (occs w x.old) x.nth).map (· +x.old.length)) 0,0):=by
 unfold bu;rw[if_neg (by rintro⟨_,h⟩;exact D h),if_pos E,oR _ _ _ _ _ _ (gC (dL (ga D)))]
def qJ (w:List Wd) (x:Itm) (a b:Int) (D:x.kind=3) (E:x.old=[]):bu w x a b=if 256<(putL w x.new a b 0 [0] 0).length then ([],6)else (putL w x.new a b 0 [0] 0,0):=by
 unfold bu
 have e:putL w x.new a b 0 [0] 0=aL a b x.new 0++w:=by rw[putL,putL];simp
 rw[if_pos ⟨D,E⟩,e]
section
variable (G:Glob)
def f219 (w:List Wd) (x:Itm) (a b:Int) (hw:w.length<=256) (Z:x.kind=2) (J:x.old≠[]) (ac:x.old.length<=256) (aa:x.new.length<=256) (hn:0<=x.nth/\x.nth<=256):
  Pure G Tryz.prog 219 [.lst 4 (w.map Wd.cs),.lst 1 (x.old.map srow),.lst 1 (x.new.map srow),.i x.nth,.i a,.i b] (fS (bu w x a b)):=by
 have E:=f314 G w x.old x.nth (by omega) (by omega) J hn.1 (by omega)
 have T:=dL (nth:=x.nth) (ga (w:=w) J)
 have I:1<=x.old.length:=length_pos_iff.2 J
 have O:=fz I (Nat.zero_le _) T
 rw[editE_two w x a b Z J]
 obtain⟨ps,X⟩:∃ps,bP (occs w x.old) x.nth=ps:=⟨_,rfl⟩
 rw[X]at E T O ⊢
 have F:=f315 G w ps x.old.length x.new a b (by omega) (by omega) (by omega) (by omega) T
 have M:decide ((x.old.length:Int)=0)=false:=decide_eq_false (by omega)
 have N:decide (x.nth<0)=false:=decide_eq_false (by omega)
 refine Pure.w c219 λR D=>?_
 unfold s219 r219
 unfold fS at D
 rcases Classical.em (ps=[])with h0|h0
 ·subst h0
  rw[if_pos rfl]at D;simp only[map_nil]at E;(repeat' (first|(with_reducible refine ab E ?_)|simp only[EV,seval,M,N]))
  all_goals exact D _ _ (Or.inr ⟨.inr rfl,.inl rfl,trivial⟩)
 ·rw[if_neg h0]at D
  have h1:1<=ps.length:=length_pos_iff.2 h0;have Y:decide ((ps.length:Int)=0)=false:=decide_eq_false (by omega);have V:(ps.map λn:Nat=>[AV.int .i64 (n:Int)])=ps.map prow:=rfl;rw[V]at E;unfold nI at F;generalize putL w x.new a b x.old.length ps 0=q at*
  rcases Classical.em (256<q.length)with h2|h2
  ·rw[if_pos h2]at D F;(repeat' (first|(with_reducible first|refine ab E ?_|refine ab F ?_)|simp only[EV,seval,M,N,Y]))
   all_goals exact D _ _ (Or.inr ⟨.inr rfl,.inl rfl,trivial⟩)
  ·rw[if_neg h2]at D F;(repeat' (first|(with_reducible first|refine ab E ?_|refine ab F ?_)|simp only[EV,seval,M,N,Y]))
   all_goals exact D _ _ (Or.inl (Or.inl rfl))
set_option maxHeartbeats 2000000 in
def f221 (w:List Wd) (x:Itm) (a b:Int) (hw:w.length<=256) (hk:x.kind=3) (d2:x.old.length<=256) (d1:x.new.length<=256) (cw:1<=x.new.length) (hn:0<=x.nth/\x.nth<=256) (ad:x.old=[]->x.nth=0):
  Pure G Tryz.prog 221 [.lst 4 (w.map Wd.cs),.lst 1 (x.old.map srow),.lst 1 (x.new.map srow),.i x.nth,.i a,.i b] (fS (bu w x a b)):=by
 have e2:decide (x.nth<0)=false:=decide_eq_false (by omega)
 have e4:decide ((x.new.length:Int)=0)=false:=decide_eq_false (by omega)
 refine Pure.w c221 λR D=>?_
 unfold s221 r221
 unfold fS at D
 rcases Classical.em (x.old=[])with ho|ho
 ·have M:=f315 G w [0] 0 x.new a b (by omega) (by simp) (by omega) (by omega) ⟨Nat.le_refl _,by omega,trivial⟩
  have e5:decide (x.nth=0)=true:=decide_eq_true (ad ho);have e6:decide (x.nth≠0)=false:=decide_eq_false (by rw[ad ho];simp);have Y:decide ((x.old.length:Int)=0)=true:=decide_eq_true (by rw[ho];rfl);rw[qJ w x a b hk ho]at D;unfold nI at M;generalize putL w x.new a b 0 [0] 0=q at*
  rcases Classical.em (256<q.length)with E|E
  ·rw[if_pos E]at D M;(repeat' (first|simp only[EV,seval,e2,e4,e5,e6,Y,Z]|simp only[EV,seval,e2,e4,e5,e6,Y]|(with_reducible intro aw N;(try(have O:=N;simp only[EVK]at O;(have Z:=O))))|(refine⟨[prow 0],rfl,(by simp[prow]),rfl,?_⟩)|(refine aP M ⟨.inl (.inl rfl),.inl (.inr ⟨rfl,rfl⟩),.inl (.inl rfl),.inl (.inl rfl),.inl (.inl rfl),.inl (.inl rfl),trivial⟩ ?_)))
   all_goals exact D _ _ (Or.inr ⟨.inr rfl,.inl rfl,trivial⟩)
  ·rw[if_neg E]at D M;(repeat' (first|simp only[EV,seval,e2,e4,e5,e6,Y,Z]|simp only[EV,seval,e2,e4,e5,e6,Y]|(with_reducible intro aw N;(try(have O:=N;simp only[EVK]at O;(have Z:=O))))|(refine⟨[prow 0],rfl,(by simp[prow]),rfl,?_⟩)|(refine aP M ⟨.inl (.inl rfl),.inl (.inr ⟨rfl,rfl⟩),.inl (.inl rfl),.inl (.inl rfl),.inl (.inl rfl),.inl (.inl rfl),trivial⟩ ?_)))
   all_goals exact D _ _ (Or.inl (Or.inl rfl))
 ·have hP:=f314 G w x.old x.nth (by omega) (by omega) ho hn.1 (by omega)
  have hg:=dL (nth:=x.nth) (ga (w:=w) ho);have al:1<=x.old.length:=length_pos_iff.2 ho;have bh:=fz al (Nat.zero_le _) hg;rw[qk w x a b hk ho]at D;obtain⟨ps,bw⟩:∃ps,bP (occs w x.old) x.nth=ps:=⟨_,rfl⟩;rw[bw]at hP hg bh D;have bs:(ps.map λn:Nat=>[AV.int .i64 (n:Int)])=ps.map prow:=rfl;rw[bs]at hP
  have aa:∀r∈ps.map prow,r.length=1:=by intro r hr;obtain⟨n,_,rfl⟩:=mem_map.1 hr;rfl
  have hC:=f316 G (ps.map prow) aa (by rw[length_map];omega);have M:=f315 G w (ps.map (· +x.old.length)) 0 x.new a b (by omega) (by rw[length_map];omega) (by omega) (by omega) (gC hg);have Y:decide ((x.old.length:Int)=0)=false:=decide_eq_false (by omega)
  rcases Classical.em (ps=[])with h0|h0
  ·subst h0;rw[if_pos rfl]at D;simp only[map_nil]at hP hC;(repeat' (first|(with_reducible refine ab hP ?_)|simp only[EV,seval,e2,e4,Y]|(refine bv [] _ hC.v (hU _) (SubN.refl _) (λr1 ch h1=>?_))|(obtain⟨ac,cap,rfl,hO⟩:=h1)))
   all_goals exact D _ _ (Or.inr ⟨.inr rfl,.inl rfl,trivial⟩)
  ·rw[if_neg h0]at D;have h1:1<=ps.length:=length_pos_iff.2 h0;have e3:decide ((ps.length:Int)=0)=false:=decide_eq_false (by omega);have V:(ps.map prow).length=ps.length:=length_map ..;(repeat' (first|(with_reducible refine ab hP ?_)|simp only[EV,seval,e2,e4,Y,e3,V]|(refine aB [] [] hC.v (hU _) (SubN.refl _) (λr1 ch h1 d0=>?_))|(obtain⟨ac,cap,rfl,⟨hO,_⟩|⟨b1,pad,rfl,rfl,ah,bk,dc,cp⟩⟩:=h1)))
   ·exfalso;exact h0 (by simpa using hO)
   ·obtain⟨C,F⟩:∃C:Nat->List (List AV),C=λi=>((ps.take i).map (· +x.old.length)++ps.drop i).map prow:=⟨_,rfl⟩
    have bb:C 0=ps.map prow:=by rw[F];simp
    have be:C ps.length=(ps.map (· +x.old.length)).map prow:=by rw[F];simp
    have J:∀i,∀r∈C i,r.length=1:=λi r hr=>by rw[F]at hr;obtain⟨n,_,rfl⟩:=mem_map.1 hr;rfl
    have I:∀i,i<=ps.length->(C i).length=ps.length:=λi hi=>by rw[F];simp;omega
    rw[V]at ah;refine ap ps (λi r (c:Unit)=>True) (λi c=>[(0,.lst 4 (w.map Wd.cs)),(1,.lst 1 (x.old.map srow)),(2,.lst 1 (x.new.map srow)),(4,.i a),(5,.i b),(14,.sc (.slice (some ⟨b1,0,none⟩) ps.length cap)),(52,.i ps.length),(53,.i i)]) (λi c=>[(b1,.cells 3 ((C i).flatten++pad))]) () trivial (by rw[bb];exact dT _ _) (by omega) (λi p r c _ X bx=>?_) (λc _ bo=>?_)
    ·have hi:=X.lt
     have T:ps[i]? =some p:=by
      have:=X.get p;rw[getElem?_eq_getElem hi];simpa[hi]using this
     have d3:=lN hg T
     have bd:(C i)[i]? =some (prow p):=by
      rw[F];simp only[getElem?_map];rw[getElem?_append_right (by simp;omega)];simp only[length_map,length_take,Nat.min_eq_left (Nat.le_of_lt hi),Nat.sub_self,getElem?_drop,Nat.add_zero,T];rfl
     have bm:((C i).flatten++pad).drop (0+i*1)= .i (p:Int)::((C i).flatten++pad).drop (i+1):=by
      have E:=oO (sz:=1) (pad:=pad) (J i) bd
      have h3:i<((C i).flatten++pad).length:=by rw[length_append,az _ (J i),I i (by omega)];omega
      rw[Nat.zero_add,Nat.mul_one,drop_eq_getElem_cons h3];rw[Nat.mul_one,drop_eq_getElem_cons h3]at E;simp only[take_succ_cons,take_zero,prow]at E
      injection E with E _
      rw[E]
     have bn:((C i).flatten++pad).length=(ps.map prow).flatten.length+pad.length:=by rw[length_append,az _ (J i),az _ aa,I i (by omega),V]
     have cm:0+i*1+1<=((C i).flatten++pad).length:=by rw[bn,az _ aa,V];omega
     have wp:IntKind.i64.wrap ((p:Int)+(x.old.length:Int))=((p+x.old.length:Nat):Int):=by rw[av (by omega) (by omega)];omega
     have an:aJ ((C i).flatten++pad) (0+i*1) [.i ((p+x.old.length:Nat):Int)]=(C (i+1)).flatten++pad:=by
      have h4:C (i+1)=(C i).set i (prow (p+x.old.length)):=by
       have h5:ps.drop i=p::ps.drop (i+1):=by
        rw[drop_eq_getElem_cons hi];congr 1;rw[getElem?_eq_getElem hi]at T;injection T
       rw[F];simp only;rw[h5,X.take];simp only[map_append,map_cons,map_nil];rw[set_append_right _ _ (by simp;omega)]
       have h6:i-(List.map prow ((ps.take i).map (· +x.old.length))).length=0:=by simp;omega
       rw[h6];simp
      rw[h4,Nat.zero_add];exact oi (sz:=1) (pad:=pad) (J i) (by rw[I i (by omega)];exact hi) rfl
     (repeat' (first|(with_reducible refine AI (by omega) ?_)|simp only[EV,seval,X.yes,X.le0,X.lt',X.get,bx,bm,wp,an]|(with_reducible refine ai ?_)));exact ak X () trivial (dT _ _)
    ·(try simp only[EV,seval,bo]);refine⟨_,_,Weak.freeze (j:=14) (rows:=C ps.length) (pad:=pad) (σ:=[]) rfl (J _) (I _ (Nat.le_refl _)).symm (by rw[I _ (Nat.le_refl _)];exact ah) bk,?_⟩;rw[be];unfold nI at M;generalize putL w x.new a b 0 (ps.map (· +x.old.length)) 0=q at*
     rcases Classical.em (256<q.length)with E|E
     ·rw[if_pos E]at D M;(repeat' (first|(with_reducible refine ab M ?_)|simp only[EV,seval,Env.set,Env.get]))
      all_goals exact D _ _ (Or.inr ⟨.inr rfl,.inl rfl,trivial⟩)
     ·rw[if_neg E]at D M;(repeat' (first|(with_reducible refine ab M ?_)|simp only[EV,seval,Env.set,Env.get]))
      all_goals exact D _ _ (Or.inl (Or.inl rfl))
end
def eJ {u:U} (h:Good u) (i:Idd) (q:U×Nat×Nat) (e:aQ i u=some q):q.2.2<q.1.kids.length/\q.1.kids.length<=64/\Par i u q.1 q.2.1 q.2.2:=by
 by_cases hi:i∈u.ids
 ·obtain⟨p,d,j⟩:=q;have D:=fp u h.nd hi e;obtain⟨a,k,b,s,_,F,_⟩:=D.split;have E:=aU u h.nd D.mem;rw[D.fnd]at E;refine⟨?_,cy (h.node p E),D⟩;show j<p.kids.length;rw[s.eq,F,length_append,length_cons];omega
 ·unfold aQ at e;rw[(dW u).2 hi]at e;simp at e
def good_hk {u:U} (h:Good u):∀i q,aQ i u=some q->q.2.2<1000000:=λi q e=>by
 obtain⟨D,E,_⟩:=eJ h i q e;omega
def oC {u:U} (h:Good u) (i:Idd):(fnd i u).kids.length<=64:=by
 by_cases hi:i∈u.ids
 ·exact cy (h.node _ (aU u h.nd hi))
 ·unfold fnd;rw[(dW u).2 hi];simp[noU]
def pl {u:U} (h:Good u):∀i w q,spot u i w=some q->q.2<1000000:=λi w q e=>by
 unfold spot at e;split at e
 ·injection e with e;subst e;simp
 ·split at e
  ·injection e with e;subst e
   have:=oC h i;simp only;omega
  ·cases D:aQ i u with
   |none=>rw[D]at e;cases e
   |some r=>
    rw[D]at e;obtain⟨E,F,_⟩:=eJ h i r D
    injection e with e;subst e
    simp only;split<;>omega
section
variable (G:Glob)
def f218 (u:U) (N:Good u) (i:Idd) (hi:i∈u.ids) (M:u.id≠i):Pure G Tryz.prog 218 [.agg u.cs,.agg i.cs] (.agg (without i u).cs):=by
 have hs:=N.short;obtain⟨p,d,j,T,e2,X⟩:=br N.nd hi M;obtain⟨Z,J,_⟩:=eJ N i _ T;simp only at Z J;have O:=f135 G i u hs N.nd;unfold lC at O;rw[T]at O;have Y:=λbn=>f215 G _ _ _ p.id u hs N.nd X.mem (by rw[X.fnd];exact d313 G bn j p Z (by omega))
 have V:without i u=U.wth p.id (λy=>{y with kids:=aN y.kids j}) u:=by unfold without;rw[T]
 rw[V];simp only[Idd.cs]at O Y;refine Pure.w c218 λR hR=>?_;unfold s218 r218;(repeat' (first|(with_reducible refine ab O ?_)|simp only[EV,seval,D]|simp only[EV,seval]|(with_reducible intro F I;(try(have E:=I;simp only[EVK]at E;first|(have D:=AI E D)|(have D:=E))))|(refine bS [(F,_)] [(_,_),(_,_)] (Y F).v (hU _) (SubN.refl _) (λr1 ac hr aa=>?_))|(obtain⟨rfl,rfl⟩:=hr)|(refine⟨_,SubN.refl _,?_⟩)))
 all_goals exact RQ hR
def f124 (u:U) (O:Good u) (x:U) (hi:x.id∈u.ids) (E:u.id≠x.id) (d:Dd):Pure G Tryz.prog 124 [.agg u.cs,.agg x.cs,.agg d.cs] (aY (without x.id u,0)):=by
 have J:=f218 G u O x.id hi E;simp only[Idd.cs]at J;unfold Dd.cs;rw[hH x,eH];refine Pure.w c124 λR N=>?_;unfold s124 r124;(repeat' (first|(with_reducible refine ab J ?_)|simp only[EV,seval,I]|simp only[EV,seval]|(with_reducible intro M D;(try(have F:=D;simp only[EVK]at F;(have I:=F))))))
 all_goals exact RQ N
def f125 (u:U) (Y:Good u) (x:U) (hi:x.id∈u.ids) (d:Dd) (hw:x.words.length<=256) (hk:d.it.kind=2) (ho:d.it.old≠[]) (O:d.it.old.length<=256) (N:d.it.new.length<=256) (hn:0<=d.it.nth/\d.it.nth<=256):
  Pure G Tryz.prog 125 [.agg u.cs,.agg x.cs,.agg d.cs] (aY (if (bu x.words d.it d.act d.item).2≠0 then (u,(bu x.words d.it d.act d.item).2)else (U.wth x.id (λy=>{y with words:=(bu x.words d.it d.act d.item).1}) u,0))):=by
 have hs:=Y.short
 have J:=f219 G x.words d.it d.act d.item hw hk ho O N hn
 unfold fS at J
 obtain⟨⟨w,e⟩,T⟩:∃q,bu x.words d.it d.act d.item=q:=⟨_,rfl⟩
 rw[T]at J ⊢
 have V:=λZ=>f215 G _ _ _ x.id u hs Y.nd hi (d220 G Z w _)
 simp only[Idd.cs]at V J
 unfold Dd.cs
 rw[hH x,eH]
 refine Pure.w c125 λR M=>?_
 unfold s125 r125
 simp only at M
 rcases Classical.em (e=0)with h|h
 ·subst h
  rw[if_neg (by simp)]at M;(repeat' (first|(with_reducible refine ab J ?_)|simp only[EV,seval,D]|simp only[EV,seval]|(with_reducible intro I F;(try(have E:=F;simp only[EVK]at E;first|(have D:=AI E D)|(have D:=E))))|(refine bS [(I,_)] [(_,_)] (V I).v (hU _) (SubN.refl _) (λr1 aa hr X=>?_))|(obtain⟨rfl,rfl⟩:=hr)|(refine⟨_,SubN.refl _,?_⟩)))
  all_goals exact RQ M
 ·rw[if_pos h]at M
  (repeat' (first|(with_reducible (refine ae (λh=>?_) λh=>?_)<;>(try simp only[DZ]at h))|(with_reducible refine ab J ?_)|simp only[EV,seval,h,D]|simp only[EV,seval,h]|(with_reducible intro I F;(try(have E:=F;simp only[EVK]at E;first|(have D:=AI E D)|(have D:=E))))|(exfalso;omega)))
  all_goals exact RQ M
def f126 (u:U) (hu:Good u) (x:U) (hi:x.id∈u.ids) (d:Dd) (hw:x.words.length<=256) (hk:d.it.kind=3) (V:d.it.old.length<=256) (T:d.it.new.length<=256) (O:1<=d.it.new.length) (hn:0<=d.it.nth/\d.it.nth<=256) (N:d.it.old=[]->d.it.nth=0):
  Pure G Tryz.prog 126 [.agg u.cs,.agg x.cs,.agg d.cs] (aY (if (bu x.words d.it d.act d.item).2≠0 then (u,(bu x.words d.it d.act d.item).2)else (U.wth x.id (λy=>{y with words:=(bu x.words d.it d.act d.item).1}) u,0))):=by
 have hs:=hu.short
 have J:=f221 G x.words d.it d.act d.item hw hk V T O hn N
 unfold fS at J
 obtain⟨⟨w,e⟩,X⟩:∃q,bu x.words d.it d.act d.item=q:=⟨_,rfl⟩
 rw[X]at J ⊢
 have Y:=λbw=>f215 G _ _ _ x.id u hs hu.nd hi (d222 G bw w _)
 simp only[Idd.cs]at Y J
 unfold Dd.cs
 rw[hH x,eH]
 refine Pure.w c126 λR M=>?_
 unfold s126 r126
 simp only at M
 rcases Classical.em (e=0)with h|h
 ·subst h
  rw[if_neg (by simp)]at M;(repeat' (first|(with_reducible refine ab J ?_)|simp only[EV,seval,D]|simp only[EV,seval]|(with_reducible intro I F;(try(have E:=F;simp only[EVK]at E;first|(have D:=AI E D)|(have D:=E))))|(refine bS [(I,_)] [(_,_)] (Y I).v (hU _) (SubN.refl _) (λr1 aa hr Z=>?_))|(obtain⟨rfl,rfl⟩:=hr)|(refine⟨_,SubN.refl _,?_⟩)))
  all_goals exact RQ M
 ·rw[if_pos h]at M
  (repeat' (first|(with_reducible (refine ae (λh=>?_) λh=>?_)<;>(try simp only[DZ]at h))|(with_reducible refine ab J ?_)|simp only[EV,seval,h,D]|simp only[EV,seval,h]|(with_reducible intro I F;(try(have E:=F;simp only[EVK]at E;first|(have D:=AI E D)|(have D:=E))))|(exfalso;omega)))
  all_goals exact RQ M
def f127 (u:U) (T:Good u) (x:U) (hi:x.id∈u.ids) (d:Dd) (Y:d.it.new.length<=256):
  Pure G Tryz.prog 127 [.agg u.cs,.agg x.cs,.agg d.cs] (aY (U.wth x.id (λy=>{y with head:=aL d.act d.item d.it.new 0}) u,0)):=by
 have hs:=T.short
 have J:=f223 G d.it.new d.act d.item 0 (by omega) (by omega) (by omega)
 obtain⟨w,M⟩:∃q,aL d.act d.item d.it.new 0=q:=⟨_,rfl⟩
 rw[M]at J ⊢
 have N:=λV=>f215 G _ _ _ x.id u hs T.nd hi (d224 G V w _)
 simp only[Idd.cs]at N J
 unfold Dd.cs
 rw[hH x,eH]
 refine Pure.w c127 λR X=>?_
 unfold s127 r127
 (repeat' (first|(with_reducible refine ab J ?_)|simp only[EV,seval,D]|simp only[EV,seval]|(with_reducible intro F I;(try(have E:=I;simp only[EVK]at E;first|(have D:=AI E D)|(have D:=E))))|(refine bS [(F,_)] [(_,_)] (N F).v (hU _) (SubN.refl _) (λr1 aa Z O=>?_))|(obtain⟨rfl,rfl⟩:=Z)|(refine⟨_,SubN.refl _,?_⟩)))
 all_goals exact RQ X
variable (hG:GOk G)
include hG
def f128 (u:U) (T:Good u) (x:U) (hx:x=fnd x.id u) (hi:x.id∈u.ids) (O:u.id≠x.id) (d:Dd):
  Pure G Tryz.prog 128 [.agg u.cs,.agg x.cs,.agg d.cs] (aY (if bR (parR x.id u).1 (parR x.id u).1.kids {x with label:=d.it.label}=10 then (u,10)else (U.wth x.id (λy=>{y with label:=d.it.label}) u,0))):=by
 have hs:=T.short
 obtain⟨p,dd,j,e1,e2,e3⟩:=br T.nd hi O
 obtain⟨hj,N,_⟩:=eJ T _ _ e1
 simp only at hj N
 have J:=f135 G x.id u hs T.nd
 unfold lC at J
 rw[e1]at J
 have I:=f27 G p.id u hs
 unfold kG at I
 rw[iF e3.mem,if_neg (by simp),e3.fnd]at I
 have M:=f208 G hG p {x with label:=d.it.label} (by omega)
 have X:=λbd=>f215 G _ _ _ x.id u hs T.nd hi (d225 G bd d _)
 rw[e2]
 simp only
 obtain⟨t,ht⟩:∃t,bR p p.kids {x with label:=d.it.label}=t:=⟨_,rfl⟩
 rw[ht]at M ⊢
 rw[hH {x with label:=d.it.label}]at M
 simp only[Idd.cs]at X J I M
 unfold Dd.cs at X ⊢
 rw[eH]at X ⊢
 rw[hH x]
 refine Pure.w c128 λR V=>?_
 unfold s128 r128
 rcases Classical.em (t=10)with h|h
 ·subst h
  rw[if_pos rfl]at V;(repeat' (first|(with_reducible first|refine ab J ?_|refine ab I ?_|refine ab M ?_)|simp only[EV,seval,D]|simp only[EV,seval]|(with_reducible intro Z F;(try(have E:=F;simp only[EVK]at E;first|(have D:=AI E D)|(have D:=E))))))
  all_goals exact RQ V
 ·rw[if_neg h]at V
  (repeat' (first|(with_reducible first|refine ab J ?_|refine ab I ?_|refine ab M ?_)|simp only[EV,seval,h,D]|simp only[EV,seval,h]|(with_reducible intro Z F;(try(have E:=F;simp only[EVK]at E;first|(have D:=AI E D)|(have D:=E))))));rename_i b4 _ _ _ Y _ _ _ b6 _ _ _ b8 _ _ _;refine bS [(Y,_)] [_,_,_,_] (X Y).v (hU _) (o6 (perm_middle (l₁:=[_,_,_]) (l₂:=[_])).symm) (λr1 ac hr aa=>?_);obtain⟨rfl,rfl⟩:=hr;refine⟨_,SubN.refl _,?_⟩
  have q1:¬Y=b6:=by have:=D;intro e;subst e;simp at this
  (repeat' (simp only[EV,seval,q1,D]))
  all_goals exact RQ V
end
def rn {G:Glob} {P:Program} {f:Value} {args:List AV} {x:Nat×AObj} {σ:Store} {K:AV->Store->Prop} {t:Tag K} {v:AV}
  (h:du G P f args [x] λr σ'=>r=v/\σ'=[x]) (D:K v (x::σ)):CALL G P f args (x::σ) K t:=
 bv [x] σ h (hU _) (SubN.refl _) (by rintro _ _ ⟨rfl,rfl⟩;exact D)
def spot_le {u:U} (h:Good u) {i q:Idd} {wh:Int} {k:Nat} (e:spot u i wh=some (q,k)):k<=(fnd q u).kids.length:=by
 unfold spot at e;split at e
 ·injection e with e;injection e with D E;omega
 ·split at e
  ·injection e with e;injection e with D E;subst D;omega
  ·obtain⟨⟨p,d,j⟩,D,E⟩:=Option.map_eq_some_iff.1 e;obtain⟨F,J,I⟩:=eJ h i _ D
   injection E with e3 e4
   subst e3;rw[I.fnd];show k<=p.kids.length;change j<p.kids.length at F;simp only at e4;split at e4<;>omega
def anc_len {u:U} {q:Idd} (D:q∈u.ids):(anc q u).length+1=(U.way q u).length:=by
 unfold anc;rw[length_reverse,length_map,length_dropLast];have:=eA D;omega
def uU {n x a b c d:Nat×AObj}:SubN [n,x,a,b,c,d] [a,x,b,n,c,d]:=
 o6 ((perm_middle (l₁:=[a,x,b]) (l₂:=[c,d])).trans (List.Perm.cons _ (List.Perm.swap _ _ _))).symm
section
variable (G:Glob) (hG:GOk G)
include hG
set_option maxHeartbeats 4000000 in
def f123 (u:U) (N:Good u) (y:U) (d:Dd) (i:Idd) (hO:one u d.it.at_=(i,0)) (aw:d.it.kind=0) (h0:0<=d.it.wh) (h3:d.it.wh<=3) (X:Unit0 d) (hp:d.it.at_.length<1000000) (cp:d.it.to_.length<1000000):
  Pure G Tryz.prog 123 [.agg u.cs,.agg y.cs,.agg d.cs] (aY (insP u i d)):=by
 have hs:=N.short
 have bs:=N.cnt
 have hi:i∈u.ids:=by have:=cB (u:=u) (p:=d.it.at_);rw[hO]at this;exact this rfl
 have F:=f206 G u d.it hs bs N.nd (good_hk N) (pl N) (.inl aw) h0 h3 hp cp
 have ah:dest u d.it=(match spot u i d.it.wh with|none=>.inr 9|some q=>.inl q):=by
  unfold dest;rw[hO];simp[aw];rfl
 rw[ah]at F
 unfold insP
 have Z:=λq k=>lv (q:=q) (k:=k) N.nd hi (wh:=d.it.wh)
 have Y:=λq k=>spot_le (q:=q) (k:=k) (i:=i) (wh:=d.it.wh) N
 obtain⟨z,hz⟩:∃z,spot u i d.it.wh=z:=⟨_,rfl⟩
 rw[hz]at F Z Y ⊢
 unfold dx at F
 unfold Dd.cs
 rw[hH y]
 rcases z with _|⟨q,k⟩
 ·refine Pure.w c123 λR J=>?_
  unfold s123 r123;unfold aY at J;simp only at F J;rw[eH]at F ⊢;(repeat' (first|(with_reducible refine ab F ?_)|simp only[EV,seval,D]|simp only[EV,seval]|(with_reducible intro O I;(try(have E:=I;simp only[EVK]at E;first|(have D:=AI E D)|(have D:=E))))))
  all_goals exact RQ J
 ·have hq:=Z q k rfl
  have bb:=Y q k rfl;simp only at F ⊢;have cw:=eI X.nodes (by have:=X.cnt;omega);have M:=f207 G d.it.unit d.act d.item cw (by have h1:=wt_le X.nodes;have h2:=X.cnt;omega);obtain⟨s1,s2,s3,s4,s5⟩:=kf d.it.unit d.act d.item X.nodes;obtain⟨x,hx⟩:∃x,bi d.it.unit d.act d.item=x:=⟨_,rfl⟩;rw[hx]at M s1 s2 s3 s4 s5 ⊢;have aa:x.Short:=eI s5 (by rw[s3];have:=X.cnt;omega);have V:=f27 G q u hs;unfold kG at V;rw[iF hq,if_neg (by simp)]at V;have ch:=oC N q;have ad:=anc_len hq;have T:=f209 G u q x hs.1 aa.1;have bd:=f210 G u hs.1;have be:=f210 G x aa.1;have bk:=f211 G u hs.1;have bm:=f211 G x aa.1;have hT:=f208 G hG (fnd q u) x (by omega)
  have dd:x.ids.length=x.flat.length:=by unfold U.ids;rw[length_map]
  have d3:u.ids.length=u.flat.length:=by unfold U.ids;rw[length_map]
  have dc:x.flat.length<=1024:=by rw[s3];exact X.cnt
  have ac:=λbh=>f212k G [(bh,.cells 100 [.lst 3 (u.ids.map Idd.cs)])] (.func (.func 213) #[] #[.p bh]) (λk=>decide (k∈u.ids)) x.ids (by omega)
   (λw _=>⟨_,_,_,rfl,f213 G bh u.ids w (by omega)⟩)
  have hW:=λbn bx=>f215 G _ _ _ q u hs N.nd hq (d216 G bn bx k x _ bb (by omega))
  have d1:(0:Int)<=x.cnt/\x.cnt<=1024:=by unfold U.cnt;omega
  have d0:(0:Int)<=u.cnt/\u.cnt<=1024:=by unfold U.cnt;omega
  have w3:IntKind.i64.wrap (u.cnt+x.cnt)=u.cnt+x.cnt:=av (by omega) (by omega);rw[←ad];clear s1 s2 s4 ah Z Y ch;obtain⟨P,hP⟩:∃P,fnd q u=P:=⟨_,rfl⟩;rw[hP]at V hT bb ⊢;obtain⟨t,ht⟩:∃t,bR P P.kids x=t:=⟨_,rfl⟩;rw[ht]at hT ⊢;obtain⟨an,bo⟩:∃an,(anc q u).length=an:=⟨_,rfl⟩;rw[bo]at T ⊢;obtain⟨ex,bw⟩:∃ex,x.ids.any (λk=>decide (k∈u.ids))=ex:=⟨_,rfl⟩;rw[bw]at ac ⊢;simp only[Idd.cs]at V T hW;rw[hH P]at V hT;unfold aY;rw[show(((an+1:Nat):Int))=(an:Int)+1 by omega];refine Pure.w c123 λR J=>?_;unfold s123 r123;rw[eH]at F ⊢;rw[hH d.it.unit]at M
  rcases Classical.em (t=0)with h|h
  ·subst h;rw[if_neg (by simp)]at J;(repeat' (first|(with_reducible (first|refine ae (λh=>?_) λh=>?_|refine af (λh=>?_) λh=>?_)<;>(try simp only[DZ]at h))|(with_reducible first|refine ab F ?_|refine ab V ?_|refine ab M ?_|refine ab hT ?_|refine ab T ?_|refine ab bd ?_|refine ab be ?_|refine ab bk ?_|refine ab bm ?_)|simp only[EV,seval,w3,D]|simp only[EV,seval,w3]|(with_reducible intro O I;(try(have E:=I;simp only[EVK]at E;first|(have D:=AI E D)|(have D:=E))))|(with_reducible first|refine ag ?_ ?_|refine ai ?_)|(refine rn (ac O).v ?_)))
   all_goals try(
    refine J _ _ (.inl (.inl ?_))
    rw[if_pos (by first|exact .inl (by omega)|exact .inr (.inl (by omega))|exact .inr (.inr (by omega)))]
    done)
   all_goals
    have cm:¬(64<=P.kids.length\/8<(an:Int)+1+x.dep\/1024<u.cnt+x.cnt):=by omega
    rw[if_neg cm]at J
   all_goals try(
    refine J _ _ (.inl (.inl ?_))
    rw[if_pos (by assumption)]
    done)
   all_goals
    have al:ex=false:=by assumption
    rw[al]at J
    simp only[Bool.false_eq_true,if_false]at J
    refine bS [(_,_),(_,_)] [_,_,_,_] (hW _ _).v (hU _) uU (λr1 dl hr d2=>?_)
    obtain⟨rfl,rfl⟩:=hr
    refine⟨_,SubN.refl _,?_⟩
    (repeat' (simp only[EV,seval,D]))
    all_goals exact RQ J
  ·rw[if_pos h]at J;(repeat' (first|(with_reducible (first|refine ae (λh=>?_) λh=>?_|refine af (λh=>?_) λh=>?_)<;>(try simp only[DZ]at h))|(with_reducible first|refine ab F ?_|refine ab V ?_|refine ab M ?_|refine ab hT ?_)|simp only[EV,seval,h,D]|simp only[EV,seval,h]|(with_reducible intro O I;(try(have E:=I;simp only[EVK]at E;first|(have D:=AI E D)|(have D:=E))))|(with_reducible first|refine ag ?_ ?_|refine ai ?_)|(exfalso;omega)))
   all_goals exact RQ J
end
def pJ {u:U} (h:Good u) {i t:Idd} (hi:i∈u.ids) (F:u.id≠i) (X:t∈u.ids) {wh:Int} (h0:0<=wh) (h3:wh<=3) {q:Idd} {k:Nat} (e:fH u i t wh=some (q,k)):q∈u.ids/\q∉(fnd i u).ids/\q∈(without i u).ids:=by
 obtain⟨g1,g2,g3,A,B,hA,Y,Z⟩:=fy h hi F;obtain⟨own,dO,j,w1,w2,O⟩:=br h.nd hi F;obtain⟨a,x,b,s,hx,hj,hl⟩:=O.split;have M:fnd i u=x:=aI hl
 have E:q∈u.ids/\q∉(fnd i u).ids:=by
  unfold fH at e;rw[w1]at e;simp only at e;split at e
  ·cases e
  ·rename_i V;rw[not_or]at V;split at e
   ·injection e with e;injection e with e3 e4
    subst e3;refine⟨O.mem,?_⟩;rw[M];have:=(rU O.nd).2;rw[s.eq,rO,hJ]at this;exact λD=>this (mem_append.2 (.inr (mem_append.2 (.inl D))))
   ·rename_i T;obtain⟨⟨q',k'⟩,I,e6⟩:=Option.map_eq_some_iff.1 e
    injection e6 with e7 e8
    subst e7
    have hr:¬(besides wh=true/\t=u.id):=by
     rintro⟨r1,r2⟩
     have J:wh=2\/wh=3:=by simpa[besides]using r1
     unfold spot at I;rw[cO r2.symm]at I
     rcases J with J|J<;>simp[J]at I
    obtain⟨P,dp,k2,N⟩:=jE h.nd X h0 h3 hr;have:=N.spot;rw[I]at this
    injection this with this
    injection this with e9 e10
    simp only at e9 ⊢;rw[e9];refine⟨N.mem,N.out i hi λD=>?_⟩;exact V.1 ((iE u h.nd X hi).2 ⟨T,D⟩)
 refine⟨E.1,E.2,?_⟩;rw[Z];have:=E.1;rw[Y]at this
 rcases mem_append.1 this with D|D
 ·exact mem_append.2 (.inl D)
 ·rcases mem_append.1 D with D|D
  ·exact absurd D E.2
  ·exact mem_append.2 (.inr D)
def po {i:Idd} {f:U->U}:∀us:List U,(U.wths i f us).length=us.length
 |[]=>by rw[sR]
 |u::us=>by
  rw[sr];split
  ·rw[length_cons,length_cons,po us]
  ·rfl
def pk {u:U} (h:Good u) {i q:Idd} (hi:i∈u.ids) (aa:u.id≠i) (O:q∈u.ids) (F:q∉(fnd i u).ids) {own:U} {V j:Nat} (T:aQ i u=some (own,V,j)):
  (fnd q (without i u)).kids.length=if q=own.id then own.kids.length-1 else (fnd q u).kids.length:=by
 have N:=fp u h.nd hi T
 obtain⟨a,x,b,s,hx,Y,Z⟩:=N.split
 have M:fnd i u=x:=aI Z
 rw[M]at F
 have X:without i u=U.wth own.id (λy=>{y with kids:=aN y.kids j}) u:=by unfold without;rw[T]
 subst Y
 have I:=jH (t:=q) h.nd N s.eq F
 have D:=(dH u h.nd O).2
 have J:fnd q (without i u)=U.wth own.id (λy=>{y with kids:=aN y.kids a.length}) (fnd q u):=by
  rw[X];refine aI ?_;rw[I,getLast?_map,D,Option.map_some]
 rw[J]
 by_cases E:q=own.id
 ·subst E
  rw[if_pos rfl,N.fnd,bz rfl,s.eq];simp only;rw[bM,length_append,length_append,length_cons];omega
 ·rw[if_neg E,sh,if_neg (by rw[(dH u h.nd O).1];exact E)]
  exact po _
def goes_le {u:U} (h:Good u) {i t:Idd} (hi:i∈u.ids) (E:u.id≠i) (Y:t∈u.ids) {wh:Int} (T:0<=wh) (V:wh<=3) {q:Idd} {k:Nat} (e:fH u i t wh=some (q,k)):k<=(fnd q (without i u)).kids.length:=by
 obtain⟨m1,m2,m3⟩:=pJ h hi E Y T V e;obtain⟨own,dO,j,M,w2,X⟩:=br h.nd hi E;obtain⟨p1,p2,_⟩:=eJ h i _ M;change j<own.kids.length at p1;rw[pk h hi E m1 m2 M];unfold fH at e;rw[M]at e;simp only at e;split at e
 ·cases e
 ·split at e
  ·injection e with e;injection e with e3 e4
   rw[if_pos e3.symm];omega
  ·obtain⟨⟨q',Z⟩,N,O⟩:=Option.map_eq_some_iff.1 e;have J:=spot_le h N
   injection O with e7 e8
   simp only at e7 e8;subst e7;by_cases D:q'=own.id
   ·rw[if_pos D];rw[D,X.fnd]at J;split at e8
    ·omega
    ·rename_i F;have:¬j<Z:=λI=>F ⟨D,I⟩;omega
   ·rw[if_neg D];split at e8
    ·rename_i F;exact absurd F.1 D
    ·omega
def uI {n x a b c d e:Nat×AObj}:SubN [n,x,a,b,c,d,e] [a,b,c,n,d,e,x]:=
 o6 ((perm_middle (l₁:=[a,b,c]) (l₂:=[d,e,x])).trans (List.Perm.cons _ (perm_middle (l₁:=[a,b,c,d,e]) (l₂:=[])))).symm
section
variable (G:Glob)
def pP (u X:U) (d:Dd) (e:Int) (J:e≠0) (D:Pure G Tryz.prog 206 [.agg u.cs,.agg d.it.cs] (dx (.inr e))):Pure G Tryz.prog 129 [.agg u.cs,.agg X.cs,.agg d.cs] (aY (u,e)):=by
 unfold dx at D;unfold Dd.cs aY;rw[eH]at D ⊢;rw[hH X];refine Pure.w c129 λR N=>?_;unfold s129 r129;(repeat' (first|(with_reducible (refine ae (λh=>?_) λh=>?_)<;>(try simp only[DZ]at h))|(with_reducible refine ab D ?_)|simp only[EV,seval,J,E]|simp only[EV,seval,J]|(with_reducible intro M I;(try(have F:=I;simp only[EVK]at F;first|(have E:=AI F E)|(have E:=F))))|(exfalso;omega)))
 all_goals exact RQ N
end
section
variable (G:Glob) (hG:GOk G)
include hG
set_option maxHeartbeats 4000000 in
def f129 (u:U) (J:Good u) (d:Dd) (i:Idd) (hO:one u d.it.at_=(i,0)) (F:u.id≠i) (be:d.it.kind=6) (h0:0<=d.it.wh) (h3:d.it.wh<=3) (hp:d.it.at_.length<1000000) (ch:d.it.to_.length<1000000):
  Pure G Tryz.prog 129 [.agg u.cs,.agg (fnd i u).cs,.agg d.cs] (aY (if (one u d.it.to_).2≠0 then (u,(one u d.it.to_).2)else movP u i (one u d.it.to_).1 d)):=by
 have hs:=J.short
 have bs:=J.cnt
 have hi:i∈u.ids:=by have:=cB (u:=u) (p:=d.it.at_);rw[hO]at this;exact this rfl
 have D:=f206 G u d.it hs bs J.nd (good_hk J) (pl J) (.inr be) h0 h3 hp ch
 have Z:=(dH u J.nd hi).1
 have al:=aU u J.nd hi
 have Y:=cB (u:=u) (p:=d.it.to_)
 have bb:dest u d.it=if (one u d.it.to_).2≠0 then .inr (one u d.it.to_).2 else (match fH u i (one u d.it.to_).1 d.it.wh with|none=>.inr 9|some q=>.inl q):=by
  unfold dest;rw[hO];simp[be];rfl
 rw[bb]at D
 obtain⟨⟨t,e⟩,cp⟩:∃z,one u d.it.to_=z:=⟨_,rfl⟩
 rw[cp]at D Y ⊢
 simp only at D Y ⊢
 rcases Classical.em (e=0)with he|he
 ·subst he
  rw[if_neg (by simp)]at D ⊢;have ht:=Y rfl;have ah:=λq k=>pJ (q:=q) (k:=k) J hi F ht h0 h3;have ad:=λq k=>goes_le (q:=q) (k:=k) J hi F ht h0 h3;unfold movP;obtain⟨z,hz⟩:∃z,fH u i t d.it.wh=z:=⟨_,rfl⟩;rw[hz]at D ah ad ⊢
  rcases z with _|⟨q,k⟩
  ·exact pP G u _ d 9 (by omega) D
  ·obtain⟨m1,m2,m3⟩:=ah q k rfl;have T:=ad q k rfl;obtain⟨g1,g2,g3,g4⟩:=fy J hi F;obtain⟨own,dO,j,w1,w2,cm⟩:=br J.nd hi F;have hP:=f135 G i u hs J.nd;unfold lC at hP;rw[w1]at hP;have O:=f218 G u J i hi F;have aw:(fnd i u).Short:=hs.node al;rw[w2];simp only;obtain⟨V,hV⟩:∃V,without i u=V:=⟨_,rfl⟩;rw[hV]at O g1 m3 T ⊢;have ac:=g1.short;have hF:=f27 G q V ac;unfold kG at hF;rw[iF m3,if_neg (by simp)]at hF;have bd:=oC g1 q;have aa:=anc_len m3;have d0:=g1.cnt;clear ah ad bb Y g4 g2 g3 w1 w2 cm hz m1 m2;obtain⟨X,hX⟩:∃X,fnd i u=X:=⟨_,rfl⟩;rw[hX]at Z al aw ⊢;subst Z;have M:=f209 G V q X ac.1 aw.1;have hT:=f208 G hG (fnd q V) X (by omega);have hW:=λbn bx=>f215 G _ _ _ q V ac g1.nd m3 (d226 G bn bx k X _ T (by omega));obtain⟨P,bm⟩:∃P,fnd q V=P:=⟨_,rfl⟩;rw[bm]at hF hT T bd ⊢;obtain⟨tk,cw⟩:∃tk,bR P P.kids X=tk:=⟨_,rfl⟩;rw[cw]at hT ⊢;rw[←aa];obtain⟨an,bo⟩:∃an,(anc q V).length=an:=⟨_,rfl⟩;rw[bo]at M ⊢;unfold dx at D;simp only[Idd.cs]at hF M hP O hW;simp only at D;rw[hH P]at hF hT;rw[hH X]at hT M hW ⊢;unfold Dd.cs aY;rw[show(((an+1:Nat):Int))=(an:Int)+1 by omega];refine Pure.w c129 λR hR=>?_;unfold s129 r129;rw[eH]at D ⊢
   rcases Classical.em (tk=0)with h|h
   ·subst h;rw[if_neg (by simp)]at hR;(repeat' (first|(with_reducible (first|refine ae (λh=>?_) λh=>?_|refine af (λh=>?_) λh=>?_)<;>(try simp only[DZ]at h))|(with_reducible first|refine ab D ?_|refine ab hP ?_|refine ab O ?_|refine ab hF ?_|refine ab hT ?_|refine ab M ?_)|simp only[EV,seval,am,E]|simp only[EV,seval,am]|(with_reducible intro bk N;(try(have I:=N;simp only[EVK]at I;first|(have E:=AI I E)|(have E:=I))))))
    all_goals try(
     refine hR _ _ (.inl (.inl ?_))
     rw[if_pos (by first|exact .inl ⟨by assumption,by omega⟩|exact .inr (by omega))]
     done)
    all_goals
     have bw:¬((q≠own.id/\64<=P.kids.length)\/8<(an:Int)+1+X.dep):=by
      rintro(⟨g2,g3⟩|g4)
      ·first
        |omega
        |exact g2 (by assumption)
      ·omega
     rw[if_neg bw]at hR
     refine bS [(_,_),(_,_)] [_,_,_,_,_] (hW _ _).v (hU _) uI (λr1 d1 hr bh=>?_)
     obtain⟨rfl,rfl⟩:=hr
     refine⟨_,SubN.refl _,?_⟩
     have E:=bh
     simp[Store.keys]at E
     (repeat' (simp only[EV,seval,E]))
     all_goals exact RQ hR
   ·rw[if_pos h]at hR;have h1:decide (tk≠0)=true:=decide_eq_true h;clear M hW bd aa T;(repeat' (first|(with_reducible first|refine ab D ?_|refine ab hP ?_|refine ab O ?_|refine ab hF ?_|refine ab hT ?_)|simp only[EV,seval,h1,E]|simp only[EV,seval,h1]|(with_reducible intro bk N;(try(have I:=N;simp only[EVK]at I;first|(have E:=AI I E)|(have E:=I))))))
    all_goals exact RQ hR
 ·rw[if_pos he]at D ⊢
  exact pP G u _ d e he D
end
end Go.Av
