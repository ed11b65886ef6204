/-
  ENACT, M20: words replaced and put in, by the program.
-/
import Derived.Test.YtppjieiiibgagaaGreatDoorWXM26toXM19
import Derived.Test.YtppjieiiibgagaaGreatDoorWXM11toXM16
import Derived.Test.YtppjieiiibgagaaGreatDoorWXU4toXN0
set_option linter.all false
namespace Go.Av
open Go Go.RowKit Go.Proofs List
def pF (w:List Wd) (D:List (List UInt8)) (a b:Int) (E:Nat) (ps:List Nat) (h:Gaps w.length E 0 ps):putL w D a b E ps 0=dx w D a b E 0 ps 0:=by
 rw[j0 w D a b E ps 0 0 h];simp
def editE_two (w:List Wd) (x:Itm) (a b:Int) (E:x.kind=2) (D:x.old≠[]):bj w x a b=if bG (occs w x.old) x.nth=[]then ([],4)else if 256<(putL w x.new a b x.old.length (bG (occs w x.old) x.nth) 0).length then ([],6)else (putL w x.new a b x.old.length (bG (occs w x.old) x.nth) 0,0):=by
 unfold bj;rw[if_neg (by rintro⟨h,_⟩;omega),if_neg (show ¬x.kind=3 by omega),pF _ _ _ _ _ _ (du (fW D))]
def pZ (w:List Wd) (x:Itm) (a b:Int) (E:x.kind=3) (D:x.old≠[]):bj w x a b=if bG (occs w x.old) x.nth=[]then ([],4)else if 256<(putL w x.new a b 0 ((bG (occs w x.old) x.nth).map (· +x.old.length)) 0).length then ([],6)else (putL w x.new a b 0 ((bG (occs w x.old) x.nth).map (· +x.old.length)) 0,0):=by
 unfold bj;rw[if_neg (by rintro⟨_,h⟩;exact D h),if_pos E,pF _ _ _ _ _ _ (gc (du (fW D)))]
def qG (w:List Wd) (x:Itm) (a b:Int) (D:x.kind=3) (E:x.old=[]):bj w x a b=if 256<(putL w x.new a b 0 [0] 0).length then ([],6)else (putL w x.new a b 0 [0] 0,0):=by
 unfold bj
 have e:putL w x.new a b 0 [0] 0=aR a b x.new 0++w:=by rw[putL,putL];simp
 rw[if_pos ⟨D,E⟩,e]
section
variable (G:Glob)
def f219 (w:List Wd) (x:Itm) (a b:Int) (hw:w.length<=256) (Z:x.kind=2) (J:x.old≠[]) (ac:x.old.length<=256) (aa:x.new.length<=256) (hn:0<=x.nth/\x.nth<=256):
  Pure G Tryz.prog 219 [.lst 4 (w.map Wd.cs),.lst 1 (x.old.map srow),.lst 1 (x.new.map srow),.i x.nth,.i a,.i b] (fy (bj w x a b)):=by
 have E:=f314 G w x.old x.nth (by omega) (by omega) J hn.1 (by omega)
 have T:=du (nth:=x.nth) (fW (w:=w) J)
 have I:1<=x.old.length:=length_pos_iff.2 J
 have O:=eW I (Nat.zero_le _) T
 rw[editE_two w x a b Z J]
 obtain⟨ps,X⟩:∃ps,bG (occs w x.old) x.nth=ps:=⟨_,rfl⟩
 rw[X]at E T O ⊢
 have F:=f315 G w ps x.old.length x.new a b (by omega) (by omega) (by omega) (by omega) T
 have M:decide ((x.old.length:Int)=0)=false:=decide_eq_false (by omega)
 have N:decide (x.nth<0)=false:=decide_eq_false (by omega)
 refine Pure.w c219 λR D=>?_
 unfold s219 r219
 unfold fy at D
 rcases Classical.em (ps=[])with h0|h0
 ·subst h0
  rw[if_pos rfl]at D;simp only[map_nil]at E;(repeat' (first|(with_reducible refine ab E ?_)|simp only[EV,seval,M,N]))
  all_goals exact D _ _ (Or.inr ⟨.inr rfl,.inl rfl,trivial⟩)
 ·rw[if_neg h0]at D
  have h1:1<=ps.length:=length_pos_iff.2 h0;have Y:decide ((ps.length:Int)=0)=false:=decide_eq_false (by omega);have V:(ps.map λn:Nat=>[AV.int .i64 (n:Int)])=ps.map prow:=rfl;rw[V]at E;unfold mL at F;generalize putL w x.new a b x.old.length ps 0=q at*
  rcases Classical.em (256<q.length)with h2|h2
  ·rw[if_pos h2]at D F;(repeat' (first|(with_reducible first|refine ab E ?_|refine ab F ?_)|simp only[EV,seval,M,N,Y]))
   all_goals exact D _ _ (Or.inr ⟨.inr rfl,.inl rfl,trivial⟩)
  ·rw[if_neg h2]at D F;(repeat' (first|(with_reducible first|refine ab E ?_|refine ab F ?_)|simp only[EV,seval,M,N,Y]))
   all_goals exact D _ _ (Or.inl (Or.inl rfl))
set_option maxHeartbeats 2000000 in
def f221 (w:List Wd) (x:Itm) (a b:Int) (hw:w.length<=256) (hk:x.kind=3) (d2:x.old.length<=256) (d1:x.new.length<=256) (cw:1<=x.new.length) (hn:0<=x.nth/\x.nth<=256) (ad:x.old=[]->x.nth=0):
  Pure G Tryz.prog 221 [.lst 4 (w.map Wd.cs),.lst 1 (x.old.map srow),.lst 1 (x.new.map srow),.i x.nth,.i a,.i b] (fy (bj w x a b)):=by
 have e2:decide (x.nth<0)=false:=decide_eq_false (by omega)
 have e4:decide ((x.new.length:Int)=0)=false:=decide_eq_false (by omega)
 refine Pure.w c221 λR D=>?_
 unfold s221 r221
 unfold fy at D
 rcases Classical.em (x.old=[])with ho|ho
 ·have M:=f315 G w [0] 0 x.new a b (by omega) (by simp) (by omega) (by omega) ⟨Nat.le_refl _,by omega,trivial⟩
  have e5:decide (x.nth=0)=true:=decide_eq_true (ad ho);have e6:decide (x.nth≠0)=false:=decide_eq_false (by rw[ad ho];simp);have Y:decide ((x.old.length:Int)=0)=true:=decide_eq_true (by rw[ho];rfl);rw[qG w x a b hk ho]at D;unfold mL at M;generalize putL w x.new a b 0 [0] 0=q at*
  rcases Classical.em (256<q.length)with E|E
  ·rw[if_pos E]at D M;(repeat' (first|simp only[EV,seval,e2,e4,e5,e6,Y,Z]|simp only[EV,seval,e2,e4,e5,e6,Y]|(with_reducible intro aw N;(try(have O:=N;simp only[EVK]at O;(have Z:=O))))|(refine⟨[prow 0],rfl,(by simp[prow]),rfl,?_⟩)|(refine aS M ⟨.inl (.inl rfl),.inl (.inr ⟨rfl,rfl⟩),.inl (.inl rfl),.inl (.inl rfl),.inl (.inl rfl),.inl (.inl rfl),trivial⟩ ?_)))
   all_goals exact D _ _ (Or.inr ⟨.inr rfl,.inl rfl,trivial⟩)
  ·rw[if_neg E]at D M;(repeat' (first|simp only[EV,seval,e2,e4,e5,e6,Y,Z]|simp only[EV,seval,e2,e4,e5,e6,Y]|(with_reducible intro aw N;(try(have O:=N;simp only[EVK]at O;(have Z:=O))))|(refine⟨[prow 0],rfl,(by simp[prow]),rfl,?_⟩)|(refine aS M ⟨.inl (.inl rfl),.inl (.inr ⟨rfl,rfl⟩),.inl (.inl rfl),.inl (.inl rfl),.inl (.inl rfl),.inl (.inl rfl),trivial⟩ ?_)))
   all_goals exact D _ _ (Or.inl (Or.inl rfl))
 ·have hP:=f314 G w x.old x.nth (by omega) (by omega) ho hn.1 (by omega)
  have hg:=du (nth:=x.nth) (fW (w:=w) ho);have al:1<=x.old.length:=length_pos_iff.2 ho;have bh:=eW al (Nat.zero_le _) hg;rw[pZ w x a b hk ho]at D;obtain⟨ps,bw⟩:∃ps,bG (occs w x.old) x.nth=ps:=⟨_,rfl⟩;rw[bw]at hP hg bh D;have bs:(ps.map λn:Nat=>[AV.int .i64 (n:Int)])=ps.map prow:=rfl;rw[bs]at hP
  have aa:∀r∈ps.map prow,r.length=1:=by intro r hr;obtain⟨n,_,rfl⟩:=mem_map.1 hr;rfl
  have hC:=f316 G (ps.map prow) aa (by rw[length_map];omega);have M:=f315 G w (ps.map (· +x.old.length)) 0 x.new a b (by omega) (by rw[length_map];omega) (by omega) (by omega) (gc hg);have Y:decide ((x.old.length:Int)=0)=false:=decide_eq_false (by omega)
  rcases Classical.em (ps=[])with h0|h0
  ·subst h0;rw[if_pos rfl]at D;simp only[map_nil]at hP hC;(repeat' (first|(with_reducible refine ab hP ?_)|simp only[EV,seval,e2,e4,Y]|(refine bl [] _ hC.v (hH _) (SubN.refl _) (λr1 ch h1=>?_))|(obtain⟨ac,cap,rfl,hO⟩:=h1)))
   all_goals exact D _ _ (Or.inr ⟨.inr rfl,.inl rfl,trivial⟩)
  ·rw[if_neg h0]at D;have h1:1<=ps.length:=length_pos_iff.2 h0;have e3:decide ((ps.length:Int)=0)=false:=decide_eq_false (by omega);have V:(ps.map prow).length=ps.length:=length_map ..;(repeat' (first|(with_reducible refine ab hP ?_)|simp only[EV,seval,e2,e4,Y,e3,V]|(refine aC [] [] hC.v (hH _) (SubN.refl _) (λr1 ch h1 d0=>?_))|(obtain⟨ac,cap,rfl,⟨hO,_⟩|⟨b1,pad,rfl,rfl,ah,bk,dc,cp⟩⟩:=h1)))
   ·exfalso;exact h0 (by simpa using hO)
   ·obtain⟨C,F⟩:∃C:Nat->List (List AV),C=λi=>((ps.take i).map (· +x.old.length)++ps.drop i).map prow:=⟨_,rfl⟩
    have bb:C 0=ps.map prow:=by rw[F];simp
    have be:C ps.length=(ps.map (· +x.old.length)).map prow:=by rw[F];simp
    have J:∀i,∀r∈C i,r.length=1:=λi r hr=>by rw[F]at hr;obtain⟨n,_,rfl⟩:=mem_map.1 hr;rfl
    have I:∀i,i<=ps.length->(C i).length=ps.length:=λi hi=>by rw[F];simp;omega
    rw[V]at ah;refine ap ps (λi r (c:Unit)=>True) (λi c=>[(0,.lst 4 (w.map Wd.cs)),(1,.lst 1 (x.old.map srow)),(2,.lst 1 (x.new.map srow)),(4,.i a),(5,.i b),(14,.sc (.slice (some ⟨b1,0,none⟩) ps.length cap)),(52,.i ps.length),(53,.i i)]) (λi c=>[(b1,.cells 3 ((C i).flatten++pad))]) () trivial (by rw[bb];exact a0 _ _) (by omega) (λi p r c _ X bx=>?_) (λc _ bo=>?_)
    ·have hi:=X.lt
     have T:ps[i]? =some p:=by
      have:=X.get p;rw[getElem?_eq_getElem hi];simpa[hi]using this
     have d3:=k9 hg T
     have bd:(C i)[i]? =some (prow p):=by
      rw[F];simp only[getElem?_map];rw[getElem?_append_right (by simp;omega)];simp only[length_map,length_take,Nat.min_eq_left (Nat.le_of_lt hi),Nat.sub_self,getElem?_drop,Nat.add_zero,T];rfl
     have bm:((C i).flatten++pad).drop (0+i*1)= .i (p:Int)::((C i).flatten++pad).drop (i+1):=by
      have E:=kM (sz:=1) (pad:=pad) (J i) bd
      have h3:i<((C i).flatten++pad).length:=by rw[length_append,aA _ (J i),I i (by omega)];omega
      rw[Nat.zero_add,Nat.mul_one,drop_eq_getElem_cons h3];rw[Nat.mul_one,drop_eq_getElem_cons h3]at E;simp only[take_succ_cons,take_zero,prow]at E
      injection E with E _
      rw[E]
     have bn:((C i).flatten++pad).length=(ps.map prow).flatten.length+pad.length:=by rw[length_append,aA _ (J i),aA _ aa,I i (by omega),V]
     have cm:0+i*1+1<=((C i).flatten++pad).length:=by rw[bn,aA _ aa,V];omega
     have wp:IntKind.i64.wrap ((p:Int)+(x.old.length:Int))=((p+x.old.length:Nat):Int):=by rw[av (by omega) (by omega)];omega
     have an:aM ((C i).flatten++pad) (0+i*1) [.i ((p+x.old.length:Nat):Int)]=(C (i+1)).flatten++pad:=by
      have h4:C (i+1)=(C i).set i (prow (p+x.old.length)):=by
       have h5:ps.drop i=p::ps.drop (i+1):=by
        rw[drop_eq_getElem_cons hi];congr 1;rw[getElem?_eq_getElem hi]at T;injection T
       rw[F];simp only;rw[h5,X.take];simp only[map_append,map_cons,map_nil];rw[set_append_right _ _ (by simp;omega)]
       have h6:i-(List.map prow ((ps.take i).map (· +x.old.length))).length=0:=by simp;omega
       rw[h6];simp
      rw[h4,Nat.zero_add];exact ju (sz:=1) (pad:=pad) (J i) (by rw[I i (by omega)];exact hi) rfl
     (repeat' (first|(with_reducible refine AI (by omega) ?_)|simp only[EV,seval,X.yes,X.le0,X.lt',X.get,bx,bm,wp,an]|(with_reducible refine ag ?_)));exact ak X () trivial (a0 _ _)
    ·(try simp only[EV,seval,bo]);refine⟨_,_,Weak.freeze (j:=14) (rows:=C ps.length) (pad:=pad) (σ:=[]) rfl (J _) (I _ (Nat.le_refl _)).symm (by rw[I _ (Nat.le_refl _)];exact ah) bk,?_⟩;rw[be];unfold mL at M;generalize putL w x.new a b 0 (ps.map (· +x.old.length)) 0=q at*
     rcases Classical.em (256<q.length)with E|E
     ·rw[if_pos E]at D M;(repeat' (first|(with_reducible refine ab M ?_)|simp only[EV,seval,Env.set,Env.get]))
      all_goals exact D _ _ (Or.inr ⟨.inr rfl,.inl rfl,trivial⟩)
     ·rw[if_neg E]at D M;(repeat' (first|(with_reducible refine ab M ?_)|simp only[EV,seval,Env.set,Env.get]))
      all_goals exact D _ _ (Or.inl (Or.inl rfl))
end
def er {u:U} (h:Good u) (i:Idd) (q:U×Nat×Nat) (e:aL i u=some q):q.2.2<q.1.kids.length/\q.1.kids.length<=64/\Par i u q.1 q.2.1 q.2.2:=by
 by_cases hi:i∈u.ids
 ·obtain⟨p,d,j⟩:=q;have D:=eU u h.nd hi e;obtain⟨a,k,b,s,_,F,_⟩:=D.split;have E:=aJ u h.nd D.mem;rw[D.fnd]at E;refine⟨?_,ca (h.node p E),D⟩;show j<p.kids.length;rw[s.eq,F,length_append,length_cons];omega
 ·unfold aL at e;rw[(cE u).2 hi]at e;simp at e
def good_hk {u:U} (h:Good u):∀i q,aL i u=some q->q.2.2<1000000:=λi q e=>by
 obtain⟨D,E,_⟩:=er h i q e;omega
def oc {u:U} (h:Good u) (i:Idd):(fnd i u).kids.length<=64:=by
 by_cases hi:i∈u.ids
 ·exact ca (h.node _ (aJ u h.nd hi))
 ·unfold fnd;rw[(cE u).2 hi];simp[noU]
def po {u:U} (h:Good u):∀i w q,spot u i w=some q->q.2<1000000:=λi w q e=>by
 unfold spot at e;split at e
 ·injection e with e;subst e;simp
 ·split at e
  ·injection e with e;subst e
   have:=oc h i;simp only;omega
  ·cases D:aL i u with
   |none=>rw[D]at e;cases e
   |some r=>
    rw[D]at e;obtain⟨E,F,_⟩:=er h i r D
    injection e with e;subst e
    simp only;split<;>omega
section
variable (G:Glob)
def f218 (u:U) (N:Good u) (i:Idd) (hi:i∈u.ids) (M:u.id≠i):Pure G Tryz.prog 218 [.agg u.cs,.agg i.cs] (.agg (without i u).cs):=by
 have hs:=N.short;obtain⟨p,d,j,T,e2,X⟩:=aU N.nd hi M;obtain⟨Z,J,_⟩:=er N i _ T;simp only at Z J;have O:=f135 G i u hs N.nd;unfold jK at O;rw[T]at O;have Y:=λbn=>f215 G _ _ _ p.id u hs N.nd X.mem (by rw[X.fnd];exact d313 G bn j p Z (by omega))
 have V:without i u=U.wth p.id (λy=>{y with kids:=aG y.kids j}) u:=by unfold without;rw[T]
 rw[V];simp only[Idd.cs]at O Y;refine Pure.w c218 λR hR=>?_;unfold s218 r218;(repeat' (first|(with_reducible refine ab O ?_)|simp only[EV,seval,D]|simp only[EV,seval]|(with_reducible intro F I;(try(have E:=I;simp only[EVK]at E;first|(have D:=AI E D)|(have D:=E))))|(refine bq [(F,_)] [(_,_),(_,_)] (Y F).v (hH _) (SubN.refl _) (λr1 ac hr aa=>?_))|(obtain⟨rfl,rfl⟩:=hr)|(refine⟨_,SubN.refl _,?_⟩)))
 all_goals exact RQ hR
def f124 (u:U) (O:Good u) (x:U) (hi:x.id∈u.ids) (E:u.id≠x.id) (d:Dd):Pure G Tryz.prog 124 [.agg u.cs,.agg x.cs,.agg d.cs] (aV (without x.id u,0)):=by
 have J:=f218 G u O x.id hi E;simp only[Idd.cs]at J;unfold Dd.cs;rw[b0 x,dT];refine Pure.w c124 λR N=>?_;unfold s124 r124;(repeat' (first|(with_reducible refine ab J ?_)|simp only[EV,seval,I]|simp only[EV,seval]|(with_reducible intro M D;(try(have F:=D;simp only[EVK]at F;(have I:=F))))))
 all_goals exact RQ N
def f125 (u:U) (Y:Good u) (x:U) (hi:x.id∈u.ids) (d:Dd) (hw:x.words.length<=256) (hk:d.it.kind=2) (ho:d.it.old≠[]) (O:d.it.old.length<=256) (N:d.it.new.length<=256) (hn:0<=d.it.nth/\d.it.nth<=256):
  Pure G Tryz.prog 125 [.agg u.cs,.agg x.cs,.agg d.cs] (aV (if (bj x.words d.it d.act d.item).2≠0 then (u,(bj x.words d.it d.act d.item).2)else (U.wth x.id (λy=>{y with words:=(bj x.words d.it d.act d.item).1}) u,0))):=by
 have hs:=Y.short
 have J:=f219 G x.words d.it d.act d.item hw hk ho O N hn
 unfold fy at J
 obtain⟨⟨w,e⟩,T⟩:∃q,bj x.words d.it d.act d.item=q:=⟨_,rfl⟩
 rw[T]at J ⊢
 have V:=λZ=>f215 G _ _ _ x.id u hs Y.nd hi (d220 G Z w _)
 simp only[Idd.cs]at V J
 unfold Dd.cs
 rw[b0 x,dT]
 refine Pure.w c125 λR M=>?_
 unfold s125 r125
 simp only at M
 rcases Classical.em (e=0)with h|h
 ·subst h
  rw[if_neg (by simp)]at M;(repeat' (first|(with_reducible refine ab J ?_)|simp only[EV,seval,D]|simp only[EV,seval]|(with_reducible intro I F;(try(have E:=F;simp only[EVK]at E;first|(have D:=AI E D)|(have D:=E))))|(refine bq [(I,_)] [(_,_)] (V I).v (hH _) (SubN.refl _) (λr1 aa hr X=>?_))|(obtain⟨rfl,rfl⟩:=hr)|(refine⟨_,SubN.refl _,?_⟩)))
  all_goals exact RQ M
 ·rw[if_pos h]at M
  (repeat' (first|(with_reducible (refine ae (λh=>?_) λh=>?_)<;>(try simp only[DZ]at h))|(with_reducible refine ab J ?_)|simp only[EV,seval,h,D]|simp only[EV,seval,h]|(with_reducible intro I F;(try(have E:=F;simp only[EVK]at E;first|(have D:=AI E D)|(have D:=E))))|(exfalso;omega)))
  all_goals exact RQ M
def f126 (u:U) (hu:Good u) (x:U) (hi:x.id∈u.ids) (d:Dd) (hw:x.words.length<=256) (hk:d.it.kind=3) (V:d.it.old.length<=256) (T:d.it.new.length<=256) (O:1<=d.it.new.length) (hn:0<=d.it.nth/\d.it.nth<=256) (N:d.it.old=[]->d.it.nth=0):
  Pure G Tryz.prog 126 [.agg u.cs,.agg x.cs,.agg d.cs] (aV (if (bj x.words d.it d.act d.item).2≠0 then (u,(bj x.words d.it d.act d.item).2)else (U.wth x.id (λy=>{y with words:=(bj x.words d.it d.act d.item).1}) u,0))):=by
 have hs:=hu.short
 have J:=f221 G x.words d.it d.act d.item hw hk V T O hn N
 unfold fy at J
 obtain⟨⟨w,e⟩,X⟩:∃q,bj x.words d.it d.act d.item=q:=⟨_,rfl⟩
 rw[X]at J ⊢
 have Y:=λbw=>f215 G _ _ _ x.id u hs hu.nd hi (d222 G bw w _)
 simp only[Idd.cs]at Y J
 unfold Dd.cs
 rw[b0 x,dT]
 refine Pure.w c126 λR M=>?_
 unfold s126 r126
 simp only at M
 rcases Classical.em (e=0)with h|h
 ·subst h
  rw[if_neg (by simp)]at M;(repeat' (first|(with_reducible refine ab J ?_)|simp only[EV,seval,D]|simp only[EV,seval]|(with_reducible intro I F;(try(have E:=F;simp only[EVK]at E;first|(have D:=AI E D)|(have D:=E))))|(refine bq [(I,_)] [(_,_)] (Y I).v (hH _) (SubN.refl _) (λr1 aa hr Z=>?_))|(obtain⟨rfl,rfl⟩:=hr)|(refine⟨_,SubN.refl _,?_⟩)))
  all_goals exact RQ M
 ·rw[if_pos h]at M
  (repeat' (first|(with_reducible (refine ae (λh=>?_) λh=>?_)<;>(try simp only[DZ]at h))|(with_reducible refine ab J ?_)|simp only[EV,seval,h,D]|simp only[EV,seval,h]|(with_reducible intro I F;(try(have E:=F;simp only[EVK]at E;first|(have D:=AI E D)|(have D:=E))))|(exfalso;omega)))
  all_goals exact RQ M
def f127 (u:U) (T:Good u) (x:U) (hi:x.id∈u.ids) (d:Dd) (Y:d.it.new.length<=256):
  Pure G Tryz.prog 127 [.agg u.cs,.agg x.cs,.agg d.cs] (aV (U.wth x.id (λy=>{y with head:=aR d.act d.item d.it.new 0}) u,0)):=by
 have hs:=T.short
 have J:=f223 G d.it.new d.act d.item 0 (by omega) (by omega) (by omega)
 obtain⟨w,M⟩:∃q,aR d.act d.item d.it.new 0=q:=⟨_,rfl⟩
 rw[M]at J ⊢
 have N:=λV=>f215 G _ _ _ x.id u hs T.nd hi (d224 G V w _)
 simp only[Idd.cs]at N J
 unfold Dd.cs
 rw[b0 x,dT]
 refine Pure.w c127 λR X=>?_
 unfold s127 r127
 (repeat' (first|(with_reducible refine ab J ?_)|simp only[EV,seval,D]|simp only[EV,seval]|(with_reducible intro F I;(try(have E:=I;simp only[EVK]at E;first|(have D:=AI E D)|(have D:=E))))|(refine bq [(F,_)] [(_,_)] (N F).v (hH _) (SubN.refl _) (λr1 aa Z O=>?_))|(obtain⟨rfl,rfl⟩:=Z)|(refine⟨_,SubN.refl _,?_⟩)))
 all_goals exact RQ X
variable (hG:GOk G)
include hG
def f128 (u:U) (T:Good u) (x:U) (hx:x=fnd x.id u) (hi:x.id∈u.ids) (O:u.id≠x.id) (d:Dd):
  Pure G Tryz.prog 128 [.agg u.cs,.agg x.cs,.agg d.cs] (aV (if bB (parR x.id u).1 (parR x.id u).1.kids {x with label:=d.it.label}=10 then (u,10)else (U.wth x.id (λy=>{y with label:=d.it.label}) u,0))):=by
 have hs:=T.short
 obtain⟨p,dd,j,e1,e2,e3⟩:=aU T.nd hi O
 obtain⟨hj,N,_⟩:=er T _ _ e1
 simp only at hj N
 have J:=f135 G x.id u hs T.nd
 unfold jK at J
 rw[e1]at J
 have I:=f27 G p.id u hs
 unfold iL at I
 rw[gw e3.mem,if_neg (by simp),e3.fnd]at I
 have M:=f208 G hG p {x with label:=d.it.label} (by omega)
 have X:=λbd=>f215 G _ _ _ x.id u hs T.nd hi (d225 G bd d _)
 rw[e2]
 simp only
 obtain⟨t,ht⟩:∃t,bB p p.kids {x with label:=d.it.label}=t:=⟨_,rfl⟩
 rw[ht]at M ⊢
 rw[b0 {x with label:=d.it.label}]at M
 simp only[Idd.cs]at X J I M
 unfold Dd.cs at X ⊢
 rw[dT]at X ⊢
 rw[b0 x]
 refine Pure.w c128 λR V=>?_
 unfold s128 r128
 rcases Classical.em (t=10)with h|h
 ·subst h
  rw[if_pos rfl]at V;(repeat' (first|(with_reducible first|refine ab J ?_|refine ab I ?_|refine ab M ?_)|simp only[EV,seval,D]|simp only[EV,seval]|(with_reducible intro Z F;(try(have E:=F;simp only[EVK]at E;first|(have D:=AI E D)|(have D:=E))))))
  all_goals exact RQ V
 ·rw[if_neg h]at V
  (repeat' (first|(with_reducible first|refine ab J ?_|refine ab I ?_|refine ab M ?_)|simp only[EV,seval,h,D]|simp only[EV,seval,h]|(with_reducible intro Z F;(try(have E:=F;simp only[EVK]at E;first|(have D:=AI E D)|(have D:=E))))));rename_i b4 _ _ _ Y _ _ _ b6 _ _ _ b8 _ _ _;refine bq [(Y,_)] [_,_,_,_] (X Y).v (hH _) (nm (perm_middle (l₁:=[_,_,_]) (l₂:=[_])).symm) (λr1 ac hr aa=>?_);obtain⟨rfl,rfl⟩:=hr;refine⟨_,SubN.refl _,?_⟩
  have q1:¬Y=b6:=by have:=D;intro e;subst e;simp at this
  (repeat' (simp only[EV,seval,q1,D]))
  all_goals exact RQ V
end
def qT {G:Glob} {P:Program} {f:Value} {args:List AV} {x:Nat×AObj} {σ:Store} {K:AV->Store->Prop} {t:Tag K} {v:AV}
  (h:cu G P f args [x] λr σ'=>r=v/\σ'=[x]) (D:K v (x::σ)):CALL G P f args (x::σ) K t:=
 bl [x] σ h (hH _) (SubN.refl _) (by rintro _ _ ⟨rfl,rfl⟩;exact D)
def spot_le {u:U} (h:Good u) {i q:Idd} {wh:Int} {k:Nat} (e:spot u i wh=some (q,k)):k<=(fnd q u).kids.length:=by
 unfold spot at e;split at e
 ·injection e with e;injection e with D E;omega
 ·split at e
  ·injection e with e;injection e with D E;subst D;omega
  ·obtain⟨⟨p,d,j⟩,D,E⟩:=Option.map_eq_some_iff.1 e;obtain⟨F,J,I⟩:=er h i _ D
   injection E with e3 e4
   subst e3;rw[I.fnd];show k<=p.kids.length;change j<p.kids.length at F;simp only at e4;split at e4<;>omega
def anc_len {u:U} {q:Idd} (D:q∈u.ids):(anc q u).length+1=(U.way q u).length:=by
 unfold anc;rw[length_reverse,length_map,length_dropLast];have:=ed D;omega
def uG {n x a b c d:Nat×AObj}:SubN [n,x,a,b,c,d] [a,x,b,n,c,d]:=
 nm ((perm_middle (l₁:=[a,x,b]) (l₂:=[c,d])).trans (List.Perm.cons _ (List.Perm.swap _ _ _))).symm
section
variable (G:Glob) (hG:GOk G)
include hG
set_option maxHeartbeats 4000000 in
def f123 (u:U) (N:Good u) (y:U) (d:Dd) (i:Idd) (hO:one u d.it.at_=(i,0)) (aw:d.it.kind=0) (h0:0<=d.it.wh) (h3:d.it.wh<=3) (X:Unit0 d) (hp:d.it.at_.length<1000000) (cp:d.it.to_.length<1000000):
  Pure G Tryz.prog 123 [.agg u.cs,.agg y.cs,.agg d.cs] (aV (insP u i d)):=by
 have hs:=N.short
 have bs:=N.cnt
 have hi:i∈u.ids:=by have:=bH (u:=u) (p:=d.it.at_);rw[hO]at this;exact this rfl
 have F:=f206 G u d.it hs bs N.nd (good_hk N) (po N) (.inl aw) h0 h3 hp cp
 have ah:dest u d.it=(match spot u i d.it.wh with|none=>.inr 9|some q=>.inl q):=by
  unfold dest;rw[hO];simp[aw];rfl
 rw[ah]at F
 unfold insP
 have Z:=λq k=>jL (q:=q) (k:=k) N.nd hi (wh:=d.it.wh)
 have Y:=λq k=>spot_le (q:=q) (k:=k) (i:=i) (wh:=d.it.wh) N
 obtain⟨z,hz⟩:∃z,spot u i d.it.wh=z:=⟨_,rfl⟩
 rw[hz]at F Z Y ⊢
 unfold cX at F
 unfold Dd.cs
 rw[b0 y]
 rcases z with _|⟨q,k⟩
 ·refine Pure.w c123 λR J=>?_
  unfold s123 r123;unfold aV at J;simp only at F J;rw[dT]at F ⊢;(repeat' (first|(with_reducible refine ab F ?_)|simp only[EV,seval,D]|simp only[EV,seval]|(with_reducible intro O I;(try(have E:=I;simp only[EVK]at E;first|(have D:=AI E D)|(have D:=E))))))
  all_goals exact RQ J
 ·have hq:=Z q k rfl
  have bb:=Y q k rfl;simp only at F ⊢;have cw:=en X.nodes (by have:=X.cnt;omega);have M:=f207 G d.it.unit d.act d.item cw (by have h1:=wt_le X.nodes;have h2:=X.cnt;omega);obtain⟨s1,s2,s3,s4,s5⟩:=il d.it.unit d.act d.item X.nodes;obtain⟨x,hx⟩:∃x,ba d.it.unit d.act d.item=x:=⟨_,rfl⟩;rw[hx]at M s1 s2 s3 s4 s5 ⊢;have aa:x.Short:=en s5 (by rw[s3];have:=X.cnt;omega);have V:=f27 G q u hs;unfold iL at V;rw[gw hq,if_neg (by simp)]at V;have ch:=oc N q;have ad:=anc_len hq;have T:=f209 G u q x hs.1 aa.1;have bd:=f210 G u hs.1;have be:=f210 G x aa.1;have bk:=f211 G u hs.1;have bm:=f211 G x aa.1;have hT:=f208 G hG (fnd q u) x (by omega)
  have dd:x.ids.length=x.flat.length:=by unfold U.ids;rw[length_map]
  have d3:u.ids.length=u.flat.length:=by unfold U.ids;rw[length_map]
  have dc:x.flat.length<=1024:=by rw[s3];exact X.cnt
  have ac:=λbh=>f212k G [(bh,.cells 100 [.lst 3 (u.ids.map Idd.cs)])] (.func (.func 213) #[] #[.p bh]) (λk=>decide (k∈u.ids)) x.ids (by omega)
   (λw _=>⟨_,_,_,rfl,f213 G bh u.ids w (by omega)⟩)
  have hW:=λbn bx=>f215 G _ _ _ q u hs N.nd hq (d216 G bn bx k x _ bb (by omega))
  have d1:(0:Int)<=x.cnt/\x.cnt<=1024:=by unfold U.cnt;omega
  have d0:(0:Int)<=u.cnt/\u.cnt<=1024:=by unfold U.cnt;omega
  have w3:IntKind.i64.wrap (u.cnt+x.cnt)=u.cnt+x.cnt:=av (by omega) (by omega);rw[←ad];clear s1 s2 s4 ah Z Y ch;obtain⟨P,hP⟩:∃P,fnd q u=P:=⟨_,rfl⟩;rw[hP]at V hT bb ⊢;obtain⟨t,ht⟩:∃t,bB P P.kids x=t:=⟨_,rfl⟩;rw[ht]at hT ⊢;obtain⟨an,bo⟩:∃an,(anc q u).length=an:=⟨_,rfl⟩;rw[bo]at T ⊢;obtain⟨ex,bw⟩:∃ex,x.ids.any (λk=>decide (k∈u.ids))=ex:=⟨_,rfl⟩;rw[bw]at ac ⊢;simp only[Idd.cs]at V T hW;rw[b0 P]at V hT;unfold aV;rw[show(((an+1:Nat):Int))=(an:Int)+1 by omega];refine Pure.w c123 λR J=>?_;unfold s123 r123;rw[dT]at F ⊢;rw[b0 d.it.unit]at M
  rcases Classical.em (t=0)with h|h
  ·subst h;rw[if_neg (by simp)]at J;(repeat' (first|(with_reducible (first|refine ae (λh=>?_) λh=>?_|refine ai (λh=>?_) λh=>?_)<;>(try simp only[DZ]at h))|(with_reducible first|refine ab F ?_|refine ab V ?_|refine ab M ?_|refine ab hT ?_|refine ab T ?_|refine ab bd ?_|refine ab be ?_|refine ab bk ?_|refine ab bm ?_)|simp only[EV,seval,w3,D]|simp only[EV,seval,w3]|(with_reducible intro O I;(try(have E:=I;simp only[EVK]at E;first|(have D:=AI E D)|(have D:=E))))|(with_reducible first|refine af ?_ ?_|refine ag ?_)|(refine qT (ac O).v ?_)))
   all_goals try(
    refine J _ _ (.inl (.inl ?_))
    rw[if_pos (by first|exact .inl (by omega)|exact .inr (.inl (by omega))|exact .inr (.inr (by omega)))]
    done)
   all_goals
    have cm:¬(64<=P.kids.length\/8<(an:Int)+1+x.dep\/1024<u.cnt+x.cnt):=by omega
    rw[if_neg cm]at J
   all_goals try(
    refine J _ _ (.inl (.inl ?_))
    rw[if_pos (by assumption)]
    done)
   all_goals
    have al:ex=false:=by assumption
    rw[al]at J
    simp only[Bool.false_eq_true,if_false]at J
    refine bq [(_,_),(_,_)] [_,_,_,_] (hW _ _).v (hH _) uG (λr1 dl hr d2=>?_)
    obtain⟨rfl,rfl⟩:=hr
    refine⟨_,SubN.refl _,?_⟩
    (repeat' (simp only[EV,seval,D]))
    all_goals exact RQ J
  ·rw[if_pos h]at J;(repeat' (first|(with_reducible (first|refine ae (λh=>?_) λh=>?_|refine ai (λh=>?_) λh=>?_)<;>(try simp only[DZ]at h))|(with_reducible first|refine ab F ?_|refine ab V ?_|refine ab M ?_|refine ab hT ?_)|simp only[EV,seval,h,D]|simp only[EV,seval,h]|(with_reducible intro O I;(try(have E:=I;simp only[EVK]at E;first|(have D:=AI E D)|(have D:=E))))|(with_reducible first|refine af ?_ ?_|refine ag ?_)|(exfalso;omega)))
   all_goals exact RQ J
end
def pj (f:Value) (b:Bool) (e:Int) (l:List (Value×Bool×Int)):ff ((f,b,e)::l)=if b=true then e else ff l:=rfl
def rem_first (u:U) (i:Idd) (f1 f2 f3:Value):ff [(f1,!stP u,1),(f2,!hasP i u,4),(f3,decide (u.id=i),9)]=(remT u i).2:=by
 unfold remT;simp only[pj,ff]
 cases N:stP u with
 |false=>rfl
 |true=>
  have I:¬(!true)=true:=by simp
  have E:¬(true=false):=by simp
  rw[if_neg I,if_neg E];by_cases hi:i∈u.ids
  ·have F:¬(!hasP i u)=true:=by simp[hasP,hi]
   have J:¬i∉u.ids:=λh=>h hi;rw[if_neg F,if_neg J];by_cases D:u.id=i
   ·rw[if_pos (decide_eq_true D),if_pos D]
   ·have M:¬decide (u.id=i)=true:=by simpa using D
    rw[if_neg M,if_neg D]
  ·have F:(!hasP i u)=true:=by simp[hasP,hi]
   rw[if_pos F,if_pos hi]
def sG {G:Glob} {P:Program} {k:Nat} {g:List Nat} {D:List (Nat×Option (Bool×Nat))} {s:SCode} {args:List AV} {r:AV} (E:fnAt P k g=some (D,s))
  (h:∀R:AV->Store->Prop,(∀x σ,LeRep x r->RET x σ R)->W G P s (retQ D R) (da 0 args) [] ⟨⟩):Pure G P k args r:=
 sw (R:=λx _=>LeRep x r) (aj.w E (h _ λx σ F=>⟨x,[],rH _,SubN.nil _,F⟩)) (λ_ _ h=>h)
def le_noU:LeRep (.agg zU) (.agg noU.cs):=by
 refine LeRep.agg ?_;rw[b0];unfold zU noU
 repeat' first
  |exact LeReps.nil
  |refine LeReps.cons ?_ ?_
 all_goals first|exact LeRep.refl _|exact LeRep.nil
def fnds (j:Idd):List U->U
 |[]=>noU
 |k::us=>if j∈k.ids then fnd j k else fnds j us
def fnd_fnds {j:Idd} {u:U} (h:u.id≠j):fnd j u=fnds j u.kids:=by
 have key:∀us:List U,(U.ways j us).getLastD noU=fnds j us:=by
  intro us
  induction us with
  |nil=>rw[rU];rfl
  |cons k us ih=>
   rw[rC,fnds];by_cases E:j∈k.ids
   ·rw[if_pos E]
    cases D:U.way j k with
    |nil=>exact absurd E ((cE k).1 D)
    |cons x l=>
     unfold Go.Av.fnd;rw[D];rfl
   ·rw[if_neg E,(cE k).2 E];simpa[orW]using ih
 unfold Go.Av.fnd;rw[rJ,if_neg h]
 cases D:U.ways j u.kids with
 |nil=>have:=key u.kids;rw[D]at this;simpa[fg]using this
 |cons x l=>have:=key u.kids;rw[D]at this;simpa[fg,getLastD_cons]using this
section
variable (G:Glob)
def f33 (j:Idd):∀(u:U),u.Tame->Pure G Tryz.prog 33 [.agg u.cs,.agg j.cs] (.tup [.agg (fnd j u).cs,.bool (hasP j u)]):=by
 refine U.ind λu ih ht=>?_;have ac:=ht.kids;by_cases O:u.id=j
 ·have e0:decide (u.id=j)=true:=decide_eq_true O;have aa:fnd j u=u:=aB (by rw[aN O];rfl);have hi:hasP j u=true:=decide_eq_true (O ▸ cS u);rw[aa,hi];refine Pure.w c33 λR T=>?_;unfold s33 r33;(repeat' (first|simp only[EV,seval,am,e0]|(with_reducible intro J D;(try(have E:=D;simp only[EVK]at E;(have F:=E))))|fail))
  all_goals exact RQ T
 ·have e0:decide (u.id=j)=false:=decide_eq_false O;rw[fnd_fnds O,ids_kid O];refine sG c33 λR T=>?_;unfold s33 r33;(repeat' (first|simp only[EV,seval,am,e0]|(with_reducible intro J D;(try(have E:=D;simp only[EVK]at E;(have F:=E))))|fail));refine ap u.kids (λi r (c:Unit)=>fnds j u.kids=fnds j r/\iR j u.kids=iR j r) (λi c=>[(2,.ref u.cs),(3,.ref j.cs),(4,.p J),(6,.i i)]) (λ_ _=>[(J,.cells 27 zU)]) () ⟨rfl,rfl⟩ (a0 _ _) (by omega) (λi x r c N I hw=>?_) (λc N hn=>?_)
  ·have M:=ih x I.mem (ht.kid I.mem);simp only[Idd.cs]at M;have V:=hJ (fnd j x);have X:(fnd j x).cs.take 8=(fnd j x).cs:=take_of_length_le (by omega);rw[lO,fnds]at N;obtain⟨Z,o2⟩:=N
   cases Y:hasP j x with
   |true=>
    rw[Y]at M o2;rw[if_pos (of_decide_eq_true Y)]at Z;rw[Z,o2,Bool.true_or]at T;(repeat' (first|(with_reducible refine ab M ?_)|simp only[EV,seval,I.yes,I.le0,I.lt',I.row,hw,I.get,V,X,F]|(with_reducible intro J D;(try(have E:=D;simp only[EVK]at E;(have F:=AI E F))))|(with_reducible first|refine af ?_ ?_|refine ag ?_)|fail))
    all_goals exact T _ _ (LeRep.refl _)
   |false=>
    rw[Y]at M o2;rw[if_neg (of_decide_eq_false Y)]at Z;(repeat' (first|(with_reducible refine ab M ?_)|simp only[EV,seval,I.yes,I.le0,I.lt',I.row,hw,I.get,V,X,F]|(with_reducible intro J D;(try(have E:=D;simp only[EVK]at E;(have F:=AI E F))))|(with_reducible first|refine af ?_ ?_|refine ag ?_)|fail))
    all_goals exact ak I () ⟨Z,by rw[o2];rfl⟩ (Weak.sub ((SubN.refl _).tail _))
  ·rw[N.1,N.2]at T;(repeat' (simp only[EV,seval,hn,F]))
   all_goals exact T _ _ (LeRep.tup (.cons le_noU (.cons (LeRep.refl _) .nil)))
end
section
variable (G:Glob)
end
section
variable (G:Glob)
end
section
mutual
def parX (i:Idd):U->Idd×Int×Bool
 |⟨d,k,l,h,w,ks⟩=>if d=i then (zId,-1,false)else gL i d ks 0
def gL (i o:Idd):List U->Int->Idd×Int×Bool
 |[],_=>(zId,-1,false)
 |k::ks,n=>if k.id=i then (o,n,true)else if i∈k.ids then parX i k else gL i o ks (n+1)
end
def parX_eq (i:Idd) (u:U):parX i u=if u.id=i then (zId,-1,false)else gL i u.id u.kids 0:=by cases u;rw[parX]
def trp (p:Idd×Int×Bool):AV:=.tup [.agg p.1.cs,.i p.2.1,.bool p.2.2]
section
variable (G:Glob)
set_option maxHeartbeats 4000000 in
def f34 (i:Idd):∀u:U,u.Tame->Pure G Tryz.prog 34 [.agg u.cs,.agg i.cs] (trp (parX i u)):=by
 refine U.ind λu ih ht=>?_;have aa:=ht.kids;unfold trp at ih ⊢;simp only[Idd.cs]at ih;rw[parX_eq];refine Pure.w c34 λR N=>?_;unfold s34 r34;by_cases V:u.id=i
 ·have Z:decide (u.id=i)=true:=decide_eq_true V;rw[if_pos V]at N;(repeat' (first|simp only[EV,seval,am,Z]|(with_reducible intro M D;(try(have E:=D;simp only[EVK]at E;(have I:=E))))|fail))
  all_goals exact RQ N
 ·have Z:decide (u.id=i)=false:=decide_eq_false V;rw[if_neg V]at N;(repeat' (first|simp only[EV,seval,am,Z]|(with_reducible intro M D;(try(have E:=D;simp only[EVK]at E;(have I:=E))))|fail));refine ap u.kids (λn r (c:Unit)=>gL i u.id u.kids 0=gL i u.id r n) (λn c=>[(2,.ref u.cs),(3,.ref i.cs),(4,.p M),(7,.i n)]) (λ_ _=>[(M,.cells 23 [.i 0,.i 0,.i 0])]) () rfl (a0 _ _) (by omega) (λn x r c F J hw=>?_) (λc F hn=>?_)
  ·have O:=f33 G i x (ht.kid J.mem);simp only[Idd.cs]at O;have hI:=ih x J.mem (ht.kid J.mem);rw[gL]at F;by_cases X:x.id=i
   ·have T:decide (x.id=i)=true:=decide_eq_true X;rw[if_pos X]at F;rw[F]at N;(repeat' (simp only[EV,seval,J.yes,J.le0,J.lt',J.row,hw,J.get,am,T,I]))
    all_goals exact RQ N
   ·have T:decide (x.id=i)=false:=decide_eq_false X;rw[if_neg X]at F
    cases Y:hasP i x with
    |true=>
     rw[Y]at O;rw[if_pos (by simpa[hasP]using Y)]at F;rw[F]at N;(repeat' (first|(with_reducible first|refine ab O ?_|refine ab hI ?_)|simp only[EV,seval,J.yes,J.le0,J.lt',J.row,hw,J.get,am,T,I]|(with_reducible intro M D;(try(have E:=D;simp only[EVK]at E;(have I:=AI E I))))|(with_reducible first|refine af ?_ ?_|refine ag ?_)|fail))
     all_goals exact RQ N
    |false=>
     rw[Y]at O;rw[if_neg (by simpa[hasP]using Y)]at F;(repeat' (first|(with_reducible refine ab O ?_)|simp only[EV,seval,J.yes,J.le0,J.lt',J.row,hw,J.get,am,T,I]|(with_reducible intro M D;(try(have E:=D;simp only[EVK]at E;(have I:=AI E I))))|(with_reducible first|refine af ?_ ?_|refine ag ?_)|fail))
     all_goals exact ak J () (by rw[F];congr 1) (Weak.sub (by exact(SubN.refl _).tail _))
  ·rw[gL]at F;rw[F]at N;(repeat' (simp only[EV,seval,hn,I]))
   all_goals exact RQ N
end
end
end Go.Av
