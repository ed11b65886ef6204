/-
  LINT, 54: the findings for an act.
-/
import Derived.Test.YtppjieiiibgagaaGreatDoorQXL36toXLs
import Derived.Test.YtppjieiiibgagaaGreatDoorQXL39toXL43
import Derived.Test.YtppjieiiibgagaaGreatDoorQXM1toXL49
import Derived.Test.YtppjieiiibgagaaGreatDoorQXAv29toXL23
set_option linter.all false
namespace Go.Av
open Go Go.RowKit Go.Proofs List
def mV (a:Ac) (i:Nat) (x:Itm):(a.fnds i x).length<=12:=by
 unfold Ac.fnds;have D:=fV x;have E:=eO (dupB a i x) (fw 5 tDup);have F:=ownF_len a x;simp only[length_append];omega
def gP (a:Ac):∀(l:List Itm) (i:Nat),(a.chkFrom i l).length<=12*l.length
 |[],i=>by simp[Ac.chkFrom]
 |x::r,i=>by
  have D:=mV a i x;have E:=gP a r (i+1);simp only[Ac.chkFrom,length_append,length_map,length_cons];omega
def put_cs (n:Int) (f:Fnd):(f.put n).cs=[.i n,.i f.id.act,.i f.id.item,.i f.id.n,.i f.why,.str f.text]:=rfl
def tok_apart {d:Option Nat} {e:TypeId} {m:Nat} {τ:Store} (h:Store.keys (tokS d e m++τ)|>.Nodup):∀q,d=some q->q∉τ.keys:=by
 rintro q rfl D;rw[aC]at h;exact(nodup_append.1 h).2.2 q (by simp[tokS,Store.keys]) q D rfl
def tok_new {g:Option Nat} {κ:Store} {b:Nat} {y:AObj} {e:TypeId} {m:Nat} (E:∀q,g=some q->q∉κ.keys) (D:b∉Store.keys (κ++tokS g e m)):∀q,g=some q->q∉Store.keys ((b,y)::κ):=by
 rintro q rfl F
 rcases mem_cons.1 F with h|h
 ·subst h;exact D (by rw[aC];exact mem_append.2 (.inr (by simp[tokS,Store.keys])))
 ·exact E q rfl h
/-! ### stops and joins -/
def qw {G:Glob} {P:Program} {a b:SCode} {Q:Exit->Env->Store->Prop} {I:Tag Q} {env:Env} {σ:Store} {ι:Type} (ok:ι->Prop) (st:ι->Env) (D:ι->Store)
  (F:∀j,ok j->W G P b Q (st j) (D j) ⟨⟩) (E:∀K:Env->Store->Prop,(∀j,ok j->K (st j) (D j))->W G P a (NR K Q ⟨⟩ ⟨⟩) env σ ⟨⟩):W G P (.seq a b) Q env σ I:=E (λenv σ=>W G P b Q env σ ⟨⟩) F
def qm {G:Glob} {P:Program} {a b:SCode} {Q:Exit->Env->Store->Prop} {M:Tag Q} {env:Env} {σ:Store} {ι:Type} (ok:ι->Prop) (st:ι->Env) (ext:ι->Env) (D:ι->Store)
  (J:∀j,ok j->W G P b Q (st j) (D j) ⟨⟩->W G P b Q (st j++ext j) (D j) ⟨⟩) (E:∀j,ok j->W G P b Q (st j) (D j) ⟨⟩)
  (I:∀K:Env->Store->Prop,(∀j,ok j->K (st j) (D j))->(∀j,ok j->K (st j++ext j) (D j))->W G P a (NR K Q ⟨⟩ ⟨⟩) env σ ⟨⟩):W G P (.seq a b) Q env σ M:=
 I (λenv σ=>W G P b Q env σ ⟨⟩) E λj F=>J j F (E j F)
def W_assoc {G:Glob} {P:Program} {a b c:SCode} {Q:Exit->Env->Store->Prop} {D:Tag Q} {env:Env} {σ:Store}:W G P (.seq a (.seq b c)) Q env σ D=W G P (.seq (.seq a b) c) Q env σ ⟨⟩:=by
 simp only[W_seq];refine congrArg (λq=>W G P a q env σ ⟨⟩) ?_;funext e env σ
 cases e<;>rfl
def W_stop1 {G:Glob} {P:Program} {R C A B X r r2:SCode} {i:Nat} {Q:Exit->Env->Store->Prop} {D:Tag Q} {env:Env} {σ:Store}
  (h:∀Y,Y=X->W G P (.seq R (.seq C (.seq (.seq (.block i (.seq A (.seq B Y))) r) r2))) Q env σ ⟨⟩):W G P (.seq R (.seq C (.seq (.seq (.block i (.seq A (.seq B X))) r) r2))) Q env σ D:=h X rfl
section
variable (G:Glob)
def f93 (b:Nat) (x y:Itm) (F:y.fit):aj G Tryz.prog 93 [.agg y.cs,.p b] [(b,.cells 34 x.cs)] λr σ'=>r= .bool (decide (y=x))/\σ'=[(b,.cells 34 x.cs)]:=by
 have D:=f94 G y F x;refine sX c93 λR E=>?_;unfold s93 r93;(repeat' (first|(with_reducible refine ab D ?_)|simp only[EV,seval]|fail));exact E _ _ (rW _) (SubN.refl _)
variable (hG:GOk G)
include hG
set_option maxHeartbeats 4000000 in
set_option maxRecDepth 100000 in
def f40 (hG2:GOk2 G) (a:Ac) (ht:a.title.length<4294967281) (he:a.start.event.length<1000000000000000000) (hl:a.items.length<9000000000000000000) (hs:∀x∈a.items,x.Shorts):Pure G Tryz.prog 40 [.agg a.cs] (.lst 6 (a.chk.map Fnd.cs)):=by
 have hV:=f91 G hG hG2 a ht he hl hs;refine Pure.w c40 λR hR=>?_;unfold s40 r40;unfold Ac.chk at hR;unfold Ac.cs at hV ⊢
 cases hm:a.may with
 |false=>
  rw[hm]at hV hR;(repeat' (first|(with_reducible refine ab hV ?_)|simp only[EV,seval]|(with_reducible intro blk hblk;(try(have hnx:=hblk;simp only[EVK]at hnx;(have hne:=hnx))))|(refine⟨[jZ.cs],rfl,(by simp[jZ,Fnd.cs]),rfl,?_⟩)|fail));exact hR _ _ (Or.inl (Or.inr ⟨rfl,rfl⟩))
 |true=>
  rw[hm]at hV;rw[hm,if_pos rfl]at hR
  have hlen:a.items.length<=32:=by
   unfold Ac.may at hm;simp only[Bool.and_eq_true,decide_eq_true_eq]at hm;exact hm.1.2
  (repeat' (first|(with_reducible refine ab hV ?_)|simp only[EV,seval]|fail));refine ap (ι:=Option Nat×List Fnd) a.items (λi r c=>a.chkFrom 0 a.items=c.2++a.chkFrom i r) (λi c=>[(1,.ref [.i a.number,.str a.title,.i a.day,.i a.start.kind,.i a.start.day,.str a.start.event,.lst 25 (a.items.map Itm.cs)]),(3,.own c.1 88 6 (c.2.map Fnd.cs)),(17,.lst 25 (a.items.map Itm.cs)),(18,.i a.items.length),(19,.i i)])
   (λi c=>tokS c.1 88 (c.2.length*6)) (none,[]) rfl (Weak.of (by simp[cj,Env.get,AVle,aH]) (SubN.refl _)) (by omega) (λi x r c hok hx hw=>?_) (λc hok hn=>?_)
  ·have hI:=f39o G hG x (hs x hx.mem);refine W_stop1 λY hY=>?_;(try simp only[EV,seval,hx.yes,hx.le0,hx.lt',hx.row,hw,hx.get]);intro b5 hb5;(try simp only[EV,seval,hx.yes,hx.le0,hx.lt',hx.row,hw,hx.get]);refine aB [] _ hI.v (hU _) (SubN.refl _) ?_;rintro _ _ ⟨d,rfl,rfl⟩ hnd;(try simp only[EV,seval,hx.yes,hx.le0,hx.lt',hx.row,hw,hx.get]);subst hY;simp only[length_map]at hnd;have hdk:∀q,d=some q->q∉Store.keys ((b5,AObj.cells 34 x.cs)::tokS c.1 88 (c.2.length*6)):=λq hq hm=>tok_apart hnd q hq hm;have hE:=f92k G [(b5,.cells 34 x.cs)] (.func (.func 93) #[] #[.p b5]) (λy=>decide (y=x)) (a.items.take i) (by rw[length_take];omega)
    (λy hy=>⟨_,_,_,rfl,f93 G b5 x y (((o5 y).1 (hs y (mem_of_mem_take hy))).1.fit)⟩)
   have hdup:(a.items.take i).any (λy=>decide (y=x))=dupB a i x:=rfl;rw[hdup,map_take]at hE;have hO:=f95 G a x (by omega);unfold Ac.cs at hO;obtain⟨F1,hF1⟩:∃F,F=x.finds++optF (dupB a i x) (fw 5 tDup):=⟨_,rfl⟩;have hfl:=fV x
   have hF2:a.fnds i x=F1++optF (ownP a x).2 (ownP a x).1:=by rw[hF1,←ownP_F];unfold Ac.fnds;rw[append_assoc]
   have hF1l:F1.length<=11:=by rw[hF1,length_append];have:=eO (dupB a i x) (fw 5 tDup);omega
   have hfn:=mV a i x
   have hcl:c.2.length<=384:=by
    have h1:=congrArg List.length hok;have h2:=gP a a.items 0;rw[length_append]at h1;omega
   rcases hp:ownP a x with⟨f,o⟩
   rw[hp]at hO hF2;simp only at hO hF2;rw[W_assoc];refine qm (ι:=Nat×Option Nat) (λj=>True)
    (λj=>[(1,.ref [.i a.number,.str a.title,.i a.day,.i a.start.kind,.i a.start.day,.str a.start.event,.lst 25 (a.items.map Itm.cs)]),(3,.own c.1 88 6 (c.2.map Fnd.cs)),(17,.lst 25 (a.items.map Itm.cs)),(18,.i a.items.length),(19,.i i),(4,.i i),(6,.own j.2 88 6 ((a.fnds i x).map Fnd.cs))])
    (λj=>[(7,.p j.1),(42,.bool false)])
    (λj=>(j.1,AObj.cells 88 f.cs)::(b5,AObj.cells 34 x.cs)::(tokS c.1 88 (c.2.length*6)++tokS j.2 88 ((a.fnds i x).length*6))) ?_ ?_ ?_
   ·intro j _ h;(try simp only[EV,seval,hw,cons_append,nil_append]);(try simp only[EV,seval,hw]at h);exact h
   ·intro j _;(try simp only[EV,seval,hw]);refine ap (ι:=Option Nat×List Fnd) (a.fnds i x) (λk r e=>c.2++(a.fnds i x).map (Fnd.put i)=e.2++r.map (Fnd.put i)) (λk e=>[(1,.ref [.i a.number,.str a.title,.i a.day,.i a.start.kind,.i a.start.day,.str a.start.event,.lst 25 (a.items.map Itm.cs)]),(3,.own e.1 88 6 (e.2.map Fnd.cs)),(17,.lst 25 (a.items.map Itm.cs)),(18,.i a.items.length),(19,.i i),(4,.i i),(47,.lst 6 ((a.fnds i x).map Fnd.cs)),(48,.i (a.fnds i x).length),(49,.i k)])
     (λk e=>tokS e.1 88 (e.2.length*6)) (c.1,c.2) rfl (Weak.of (by simp[cj,Env.get,AVle,aH]) ((tC.tail _).tail _)) (by omega) (λk y r2 e hok2 hy hwk=>?_) (λe hok2 hnk=>?_)
    ·have h12:=congrArg List.length hok2;simp only[length_append,length_map,length_cons]at h12;(try simp only[EV,seval,hy.yes,hy.le0,hy.lt',hy.row,hwk,hy.get]);intro b10 hb10;(try simp only[EV,seval,hy.yes,hy.le0,hy.lt',hy.row,hwk,hy.get]);intro blk hblk;refine aZ (n:=e.2.length) (m':=(e.2.length+1)*6) (bp (by assumption)) (by simp) rfl rfl rfl (by assumption) (by omega) (λgn=>?_);refine ak hy (gn,e.2++[y.put i]) ?_ ?_
     ·rw[hok2];simp
     ·simp only[map_append,map_cons,map_nil,put_cs,length_append,length_cons,length_nil,Nat.zero_add];exact dT _ _
    ·(try simp only[EV,seval,hnk,hw]);refine ak hx (e.1,e.2) ?_ (dT _ _);rw[hok,Ac.chkFrom,←append_assoc,hok2];simp
   ·intro K hK hK2;(try simp only[EV,seval,hw]);refine⟨by omega,by have:=hx.lt;omega,?_⟩;refine bv [(b5,.cells 34 x.cs)] (tokS c.1 88 (c.2.length*6)++tokS d 88 (x.finds.length*6)) hE.v (hU _) (o6 (perm_append_comm (l₁:=(b5,AObj.cells 34 x.cs)::tokS c.1 88 (c.2.length*6)) (l₂:=tokS d 88 (x.finds.length*6)))) ?_;rintro _ _ ⟨rfl,rfl⟩
    cases hdb:dupB a i x with
    |false=>
     rw[hdb]at hF1;simp only[optF,Bool.false_eq_true,if_false,append_nil]at hF1;have hrow:x.finds=F1:=hF1.symm;(try simp only[EV,seval,hw,hrow]);refine ab hO ?_;(try simp only[EV,seval,hw]);intro b7 hb7;(try simp only[EV,seval,hw])
     cases o with
     |false=>
      have e:a.fnds i x=F1:=by rw[hF2];simp[optF]
      (try simp only[EV,seval,hw]);have h:=hK2 (b7,d) trivial;rw[e]at h;simpa only[ko,cons_append,nil_append]using h
     |true=>
      have e:a.fnds i x=F1++[f]:=by rw[hF2];simp[optF]
      (try simp only[EV,seval,hw]);intro blk2 hblk2;(try simp only[EV,seval,hw]);refine eM ((b7,AObj.cells 88 [.i f.at_,.i f.id.act,.i f.id.item,.i f.id.n,.i f.why,.str f.text])::(b5,AObj.cells 34 x.cs)::tokS c.1 88 (c.2.length*6)) (n:=F1.length) (m':=(F1.length+1)*6) rfl (tok_new hdk hb7) (by simp) rfl rfl rfl hblk2 (by omega) (λg2 hg2=>?_);(try simp only[EV,seval,hw]);have h:=hK (b7,g2) trivial;rw[e]at h;simpa only[map_append,map_cons,map_nil,ko,length_append,length_cons,length_nil,Nat.zero_add,cons_append]using h
    |true=>
     rw[hdb]at hF1;simp only[optF,if_true]at hF1
     have hrow:x.finds.map Fnd.cs++[[AV.int .i64 0,.i 0,.i 0,.i 0,.i 5,.str [100,117,112,108,105,99,97,116,101]]]=F1.map Fnd.cs:=by rw[hF1];simp[db,tDup]
     (try simp only[EV,seval,hw]);intro blk hblk;(try simp only[EV,seval,hw]);refine eM ((b5,AObj.cells 34 x.cs)::tokS c.1 88 (c.2.length*6)) (n:=x.finds.length) (m':=F1.length*6) rfl hdk (by simp) rfl (by rw[hF1];simp) rfl hblk (by omega) (λg' hg'=>?_);(try simp only[EV,seval,hw,hrow]);refine ab hO ?_;(try simp only[EV,seval,hw]);intro b7 hb7;(try simp only[EV,seval,hw])
     cases o with
     |false=>
      have e:a.fnds i x=F1:=by rw[hF2];simp[optF]
      (try simp only[EV,seval,hw]);have h:=hK2 (b7,g') trivial;rw[e]at h;simpa only[ko,cons_append,nil_append]using h
     |true=>
      have e:a.fnds i x=F1++[f]:=by rw[hF2];simp[optF]
      (try simp only[EV,seval,hw]);intro blk2 hblk2;(try simp only[EV,seval,hw]);refine eM ((b7,AObj.cells 88 [.i f.at_,.i f.id.act,.i f.id.item,.i f.id.n,.i f.why,.str f.text])::(b5,AObj.cells 34 x.cs)::tokS c.1 88 (c.2.length*6)) (n:=F1.length) (m':=(F1.length+1)*6) rfl (tok_new hg' hb7) (by simp) rfl rfl rfl hblk2 (by omega) (λg2 hg2=>?_);(try simp only[EV,seval,hw]);have h:=hK (b7,g2) trivial;rw[e]at h;simpa only[map_append,map_cons,map_nil,ko,length_append,length_cons,length_nil,Nat.zero_add,cons_append]using h
  ·(repeat' (simp only[EV,seval,hn]));exact hR _ _ (Or.inl (Or.inr ⟨rfl,by rw[hok];simp[Ac.chkFrom]⟩))
end
def gG {α:Type} (p:α->Bool):∀(l:List α) (i k:Nat),firstAt p l=some k->idxF p i l=((i+k:Nat):Int)
 |[],i,k,h=>by cases h
 |x::l,i,k,h=>by
  rw[firstAt]at h;rw[idxF]
  cases D:p x with
  |true=>rw[D]at h;simp only[if_true]at h ⊢;injection h with h;subst h;rfl
  |false=>
   rw[D]at h;simp only[Bool.false_eq_true,if_false]at h ⊢;obtain⟨F,E,rfl⟩:=Option.map_eq_some_iff.1 h;rw[gG p l (i+1) F E];omega
def lC (j:Idd) (u:U):AV:=match aQ j u with
 |some (p,_,k)=>.tup [.agg p.id.cs,.int .i64 k,.bool true]
 |none=>.tup [.agg [.int .i64 0,.int .i64 0,.int .i64 0],.int .i64 (-1),.bool false]
def fv (j:Idd) (u:U):AV:=match U.way j u with
 |[]=>.tup [.agg zU,.int .i64 (-1)]
 |x::l=>.tup [.agg (fnd j u).cs,.int .i64 l.length]
def iZ (j:Idd) (u:U):AV:=match U.par j u with
 |some (p,d,k)=>.tup [.agg p.cs,.int .i64 d,.int .i64 k]
 |none=>.tup [.agg zU,.int .i64 0,.int .i64 (-1)]
section
variable (G:Glob)
def f256k (σ:Store) (f:Value) (p:U->Bool) (l:List U) (N:l.length<9000000000000000000) (I:∀x∈l,du G Tryz.prog f [.agg x.cs] σ λr σ'=>r= .bool (p x)/\σ'=σ):
  aj G Tryz.prog 256 [.lst 8 (l.map U.cs),.sc f] σ λr σ'=>r= .i (idxF p 0 l)/\σ'=σ:=by
 refine sX c256 λR F=>?_
 unfold s256 r256
 (repeat' (first|(with_reducible (refine ae (λh=>?_) λh=>?_)<;>(try simp only[DZ]at h))|simp only[EV,seval,E.yes,E.le0,E.lt',E.get,E.row,M]|simp only[EV,seval,J]|simp only[EV,seval]|(refine ak E () ?_ (dT _ _))|(refine ap l (λi r (c:Unit)=>idxF p 0 l=idxF p i r) (λi c=>[(0,.lst 8 (l.map U.cs)),(1,.sc f),(7,.i l.length),(8,.i i)]) (λ_ _=>σ) () rfl (dT _ _) (by omega) (λi x r c D E M=>?_) (λc D J=>?_))|(refine dw (I _ E.mem) ?_)))
 ·refine F _ _ (.inl (.inl ?_)) (SubN.refl _)
  rw[D,idxF,if_pos h]
 ·rw[D,idxF,h];rfl
 ·refine F _ _ (.inl (.inl ?_)) (SubN.refl _)
  rw[D];rfl
def f289k (σ:Store) (f:Value) (p:U->Bool) (l:List U) (I:l.length<9000000000000000000) (F:∀x∈l,du G Tryz.prog f [.agg x.cs] σ λr σ'=>r= .bool (p x)/\σ'=σ):
  aj G Tryz.prog 289 [.lst 8 (l.map U.cs),.sc f] σ λr σ'=>r= .bool (l.any p)/\σ'=σ:=by
 refine sX c289 λR E=>?_
 unfold s289 r289
 have D:=f256k G σ f p l I F
 (repeat' (first|simp only[EV,seval]|(refine dw D.v ?_)))
 exact E _ _ (.inl (.inl (congrArg AV.bool (dZ p l 0)))) (SubN.refl _)
def f257 (b:Nat) (j:Idd) (u:U) (O:u.Tame):aj G Tryz.prog 257 [.agg u.cs,.p b] [(b,.cells 23 j.cs)] λr σ'=>r= .bool (!(U.way j u).isEmpty)/\σ'=[(b,.cells 23 j.cs)]:=by
 have E:=f62 G j u O;refine sX c257 λR I=>?_;unfold s257 r257;simp only[Idd.cs]at E
 cases J:U.way j u with
 |nil=>
  rw[J]at E I;simp only[gL]at E;(repeat' (first|(with_reducible refine ab E ?_)|simp only[EV,seval]));exact I _ _ (rW _) (SubN.refl _)
 |cons x l=>
  rw[J]at E I;simp only[gL,map_cons]at E;(repeat' (first|(with_reducible refine ab E ?_)|simp only[EV,seval]|(with_reducible intro M D;(try(have F:=D;simp only[EVK]at F;(have N:=F))))));have:=D (by simp);subst this;exact I _ _ (rW _) (SubN.refl _)
def f135 (j:Idd) (u:U) (hs:u.Short) (hn:u.ids.Nodup):Pure G Tryz.prog 135 [.agg u.cs,.agg j.cs] (lC j u):=by
 have O:=f62 G j u hs.1;have aw:=eE j u;have hc:=hs.1.2;refine Pure.w c135 λR hR=>?_;unfold s135 r135;unfold lC at hR;simp only[Idd.cs]at O ⊢;by_cases hi:j∈u.ids/\u.id≠j
 ·obtain⟨p,d,k,e1,e2,Z⟩:=br hn hi.1 hi.2;rw[e1]at hR;obtain⟨a,x,b,s,hx,hj,hl⟩:=Z.split
  have an:p∈u.flat:=by
   have:=aU u hn Z.mem;rw[Z.fnd]at this;exact this
  have ac:=hs.node an;have J:=Z.path;have M:=Z.deep;have I:=Z.last;obtain⟨q,hq⟩:∃q,U.way p.id u=q:=⟨_,rfl⟩;rw[hq]at J M I
  have N:(U.way j u).length=d+2:=by rw[J];simp;omega
  have ad:U.way j u≠[]:=by intro e;rw[e]at N;simp at N
  rw[qj ad]at O
  have hg:((U.way j u).map U.cs).getD d []=p.cs:=by
   have V:(U.way j u)[d]? =some p:=by
    rw[J,getElem?_append_left (by omega)];rw[getLast?_eq_getElem?,M]at I;simpa using I
   simp only[List.getD,getElem?_map,V,Option.map_some,Option.getD_some]
  obtain⟨L,hL⟩:∃L,U.way j u=L:=⟨_,rfl⟩;rw[hL]at O N hg aw
  have ah:IntKind.i64.wrap ((L.length:Int)-2)=(d:Int):=by rw[av (by omega) (by omega)];omega
  have bb:=ac.1.kids
  have al:idxF (λk=>!(U.way j k).isEmpty) 0 p.kids=(k:Int):=by
   rw[gG _ _ 0 k (by rw[s.no_way,hj])];simp
  have e0:decide ((L.length:Int)<2)=false:=decide_eq_false (by omega);(repeat' (first|(with_reducible first|refine AI (by omega) ?_|refine ab O ?_)|simp only[EV,seval,ah,hg,e0,D]|simp only[EV,seval,ah,hg,e0]|(with_reducible intro T F;(try(have E:=F;simp only[EVK]at E;first|(have D:=AI E D)|(have D:=E))))));rename_i Y _ _ _ b2 _ _ _;have hI:=f256k G [(Y,.cells 23 j.cs)] (.func (.func 257) #[] #[.p Y]) (λk=>!(U.way j k).isEmpty) p.kids (by omega)
   (λy hy=>⟨_,_,_,rfl,f257 G Y j y (ac.1.kid hy)⟩)
  rw[al]at hI;refine bv [(Y,.cells 23 j.cs)] [(T,.cells 27 p.cs),(b2,.cells 23 [.i 0,.i 0,.i 0])] hI.v (hU _) (o6 perm_append_comm) ?_;rintro _ _ ⟨rfl,rfl⟩;have n1:¬Y=b2:=λe=>D.2.1 e.symm;have n2:¬Y=T:=λe=>D.1.2 e.symm;(repeat' (simp only[EV,seval,D,n1,n2,cons_append,nil_append]));exact hR _ _ (Or.inl (Or.inl rfl))
 ·have X:aQ j u=none:=by
   by_cases V:j∈u.ids
   ·exact cO (Classical.byContradiction λh2=>hi ⟨V,h2⟩)
   ·unfold aQ;rw[(dW u).2 V];rfl
  rw[X]at hR
  have aa:(U.way j u).length<2:=by
   by_cases V:j∈u.ids
   ·rw[aR (Classical.byContradiction λh2=>hi ⟨V,h2⟩)];simp
   ·rw[(dW u).2 V];simp
  cases hw:U.way j u with
  |nil=>
   rw[hw]at O;simp only[gL]at O;(repeat' (first|(with_reducible refine ab O ?_)|simp only[EV,seval,D]|simp only[EV,seval]|(with_reducible intro T F;(try(have E:=F;simp only[EVK]at E;first|(have D:=AI E D)|(have D:=E))))));exact hR _ _ (Or.inl (Or.inl rfl))
  |cons x l=>
   rw[hw]at O aa;simp only[gL,map_cons]at O;simp only[length_cons]at aa;have e0:decide (((l.length+1:Nat):Int)<2)=true:=decide_eq_true (by omega);(repeat' (first|(with_reducible refine ab O ?_)|simp only[EV,seval,e0,D]|simp only[EV,seval,e0]|(with_reducible intro T F;(try(have E:=F;simp only[EVK]at E;first|(have D:=AI E D)|(have D:=E))))));exact hR _ _ (Or.inl (Or.inl rfl))
end
def i8 (a b:Int) (l:List (List UInt8)) (m:Int) {i:Nat} {s:List UInt8} {r:List (List UInt8)} (D:Rest l i s r):aL a b (l.take (i+1)) m=aL a b (l.take i) m++[⟨s,a,b,m+i⟩]:=by
 have h:(l.take i).length=i:=by rw[length_take];have:=D.lt;omega
 rw[D.take,nw,h];rfl
def gq {α:Type} {p:α->Bool}:∀{l:List α} {k:Nat},firstAt p l=some k->k<l.length
 |[],_,h=>by cases h
 |x::l,k,h=>by
  rw[firstAt]at h;split at h
  ·injection h with h;subst h;simp
  ·obtain⟨E,D,rfl⟩:=Option.map_eq_some_iff.1 h;have:=gq D;simp;omega
def li {j:Idd}:∀{u p:U} {d k:Nat},U.par j u=some (p,d,k)->d<u.flat.length/\k<1000000+p.kids.length:=by
 intro u;refine U.ind (p:=λu=>∀{p:U} {d k:Nat},U.par j u=some (p,d,k)->d<u.flat.length/\k<1000000+p.kids.length) (λu ih p d k h=>?_) u;have J:=u.flat_pos;rw[tp]at h;split at h
 ·rename_i F e
  injection h with h
  injection h with h1 h2
  injection h2 with h2 h3
  subst h1 h2 h3;have:=gq e;exact⟨by omega,by omega⟩
 ·have:∀us:List U,(∀k∈us,k∈u.kids)->∀{p:U} {d k:Nat},U.pars j us=some (p,d,k)->d<1+(U.flats us).length/\k<1000000+p.kids.length:=by
   intro us
   induction us with
   |nil=>intro _ p d k h;rw[tg]at h;cases h
   |cons x us ihu=>
    intro D p d k h;rw[sG]at h;rw[aF,length_append];split at h
    ·rename_i M I F e
     injection h with h
     injection h with h1 h2
     injection h2 with h2 h3
     subst h1 h2 h3;have:=ih x (D x (by simp)) e;exact⟨by omega,this.2⟩
    ·have:=ihu (λk E=>D k (by simp[E])) h;exact⟨by omega,this.2⟩
  have:=this u.kids (λ_ h=>h) h;rw[U.flat_eq,length_cons];exact⟨by omega,this.2⟩
section
variable (G:Glob)
def f328 (l:List Wd) (X:l.length<1000000):Pure G Tryz.prog 328 [.lst 4 (l.map Wd.cs)] (.lst 1 ((l.map Wd.text).map srow)):=by
 refine Pure.w c328 λR N=>?_;unfold s328 r328;(repeat' (first|simp only[EV,seval,D.yes,D.le0,D.lt',D.get,D.row,V]|simp only[EV,seval,O]|simp only[EV,seval]|(with_reducible intro I E;(try(have F:=E;simp only[EVK]at F;(have T:=F))))|(refine⟨[],rfl,(by simp),rfl,?_⟩)|(refine ap (ι:=Option Nat) (l) (λi r c=>True) (λi c=>[(0,.lst 4 (l.map Wd.cs)),(3,.own c 9 1 ((l.take i).map (λw=>[AV.str w.text]))),(4,.i i)]) (λi c=>tokS c 9 (i)) (some I) (by trivial) (dT _ _) (by omega) (λi x r c J D V=>?_) (λc J O=>?_))|(refine aZ (n:=i) (m':=(i+1)) (by exact aS) (by simp;have:=D.lt;omega) (by omega) (by omega) rfl (by assumption) (by have:=D.lt;omega) (λM=>?_))|(refine ak D M ?_ (by simp only[D.take,map_append,map_cons,map_nil];exact dT _ _))|fail));(all_goals(((refine N _ _ (Or.inl (Or.inr ⟨rfl,?_⟩));simp[kX,Function.comp_def];done))))
def f87 (l:List (List UInt8)) (a b m:Int) (Y:l.length<1000000) (O:0<=m) (Z:m<1000000000000):Pure G Tryz.prog 87 [.lst 1 (l.map srow),.i a,.i b,.i m] (.lst 4 ((aL a b l m).map Wd.cs)):=by
 refine Pure.w c87 λR N=>?_;unfold s87 r87;(repeat' (first|simp only[EV,seval,D.yes,D.le0,D.lt',D.get,D.row,X,av (x:=m+(i:Int)) (by omega) (by have:=D.lt;omega)]|simp only[EV,seval,T]|simp only[EV,seval]|(with_reducible intro I E;(try(have F:=E;simp only[EVK]at F;(have V:=F))))|(refine⟨[],rfl,(by simp),rfl,?_⟩)|(refine ap (ι:=Option Nat) l (λi r c=>True) (λi c=>[(0,.lst 1 (l.map srow)),(1,.i a),(2,.i b),(3,.i m),(9,.own c 118 4 ((aL a b (l.take i) m).map Wd.cs)),(10,.i i)]) (λi c=>tokS c 118 (i*4)) (some I) trivial (dT _ _) (by omega) (λi x r c J D X=>?_) (λc J T=>?_))|fail))
 ·have hi:=D.lt;refine aZ (n:=i) (m':=(i+1)*4) aS (by rw[length_map,bG,length_take];omega) rfl rfl rfl (by assumption) (by omega) (λM=>?_);refine ak D M trivial ?_;rw[i8 a b l m D,map_append];exact dT _ _
 ·exact N _ _ (Or.inl (Or.inr ⟨rfl,by rw[take_length]⟩))
def f88 (l:List U) (k:Int) (t:List UInt8) (M:l.length<1000000):Pure G Tryz.prog 88 [.lst 8 (l.map U.cs),.i k,.str t] (.bool (cU l k t)):=by
 refine Pure.w c88 λR F=>?_;unfold s88 r88;unfold cU at F;(repeat' (first|(with_reducible (first|refine ae (λh=>?_) λh=>?_|refine af (λh=>?_) λh=>?_)<;>(try simp only[DZ]at h))|simp only[EV,seval,E.yes,E.le0,E.lt',E.get,E.row,J]|simp only[EV,seval,I]|simp only[EV,seval]|(refine ak E () ?_ (dT _ _))|(refine ap (l) (λi r (c:Unit)=>(l.any λx=>decide (x.kind=k)&&decide (x.label=t))=r.any λx=>decide (x.kind=k)&&decide (x.label=t)) (λi c=>[(0,.lst 8 (l.map U.cs)),(1,.i k),(2,.str t),(7,.i i)]) (λ_ _=>[]) () (by rfl) (dT _ _) (by omega) (λi x r c D E J=>?_) (λc D I=>?_))|fail));(all_goals(first|(refine RET.eq F ?_;first|(simp only[D,EVC,decide_true,decide_false];done)|(simp_all[];done))|(rw[D];simp only[h,EVC,decide_true,decide_false];done)))
def f148 (l:List U) (j:Idd) (M:l.length<1000000):Pure G Tryz.prog 148 [.lst 8 (l.map U.cs),.agg j.cs] (.i (idxF (λk=>decide (k.id=j)) 0 l)):=by
 refine Pure.w c148 λR F=>?_;unfold s148 r148;(repeat' (first|(with_reducible (refine ae (λh=>?_) λh=>?_)<;>(try simp only[DZ]at h))|simp only[EV,seval,am,E.yes,E.le0,E.lt',E.get,E.row,J]|simp only[EV,seval,am,I]|simp only[EV,seval,am]|(refine ak E () ?_ (dT _ _))|(refine ap (l) (λi r (c:Unit)=>idxF (λk=>decide (k.id=j)) 0 l=idxF (λk=>decide (k.id=j)) i r) (λi c=>[(0,.lst 8 (l.map U.cs)),(3,.ref j.cs),(5,.i i)]) (λ_ _=>[]) () (by rfl) (dT _ _) (by omega) (λi x r c D E J=>?_) (λc D I=>?_))|fail))
 ·exact RET.eq F (by rw[D,idxF];simp[h])
 ·rw[D,idxF];simp[h]
 ·exact RET.eq F (by rw[D];rfl)
def f144:∀(u:U),u.Tame->Pure G Tryz.prog 144 [.agg u.cs] (.i u.dep):=by
 refine U.ind λu ih F=>?_;have N:=F.kids
 have M:0<=U.deps u.kids:=by rw[←sv];exact u.dep_ge
 refine Pure.w c144 λR J=>?_;unfold s144 r144;rw[sv]at J;(repeat' (first|(with_reducible (refine ae (λh=>?_) λh=>?_)<;>(try simp only[DZ]at h))|(with_reducible refine ab (ih x E.mem (F.kid E.mem)) ?_)|simp only[EV,seval,E.yes,E.le0,E.lt',E.get,E.row,T,I]|simp only[EV,seval,O]|simp only[EV,seval]|(refine ap (ι:=Int) (u.kids) (λi r c=>U.deps u.kids=max c (U.deps r)/\0<=c) (λi c=>[(1,.ref u.cs),(3,.i c),(4,.i i)]) (λ_ _=>[]) (0) (by((simp;omega))) (dT _ _) (by omega) (λi x r c D E T=>?_) (λc D O=>?_)<;>(try(have I:IntKind.i64.wrap (1+x.dep)=1+x.dep:=av (by have:=x.dep_ge;omega) (by have V:=x.dep_cnt;have X:=(F.kid E.mem).2;have Y:(x.flat.length:Int)=x.cnt:=rfl;omega))))|(refine ak E _ ?_ (dT _ _))|fail))
 ·have:=x.dep_ge;rw[sk]at D;omega
 ·rw[sk]at D;omega
 ·exact RET.eq J (by rw[D.1,sM,Int.max_eq_left D.2])
def f82 (j:Idd):∀(u:U),u.Tame->Pure G Tryz.prog 82 [.agg u.cs,.agg j.cs] (fv j u):=by
 refine U.ind λu ih Y=>?_;have ac:=Y.kids;have hc:=Y.2;have V:=eE j u;refine Pure.w c82 λR T=>?_;unfold s82 r82;unfold fv at T;rw[sd]at T V;by_cases X:u.id=j
 ·have Z:decide (u.id=j)=true:=decide_eq_true X;have hf:fnd j u=u:=aI (by rw[aR X];rfl);rw[if_pos X,hf]at T;(repeat' (first|simp only[EV,seval,am,Z]|(with_reducible intro M D;(try(have E:=D;simp only[EVK]at E;(have F:=E))))|fail));exact T _ _ (Or.inl (Or.inl rfl))
 ·have Z:decide (u.id=j)=false:=decide_eq_false X;rw[if_neg X]at T V;simp only[Idd.cs,fv]at ih;(repeat' (first|simp only[EV,seval,am,Z]|(with_reducible intro M D;(try(have E:=D;simp only[EVK]at E;(have F:=E))))|fail));refine ap u.kids (λi r (c:Unit)=>U.ways j u.kids=U.ways j r) (λi c=>[(2,.ref u.cs),(3,.ref j.cs),(4,.p M),(6,.i i)]) (λi c=>[(M,.cells 27 zU)]) () rfl (dT _ _) (by omega) (λi x r c I J hw=>?_) (λc I hn=>?_)
  ·rw[rT]at I
   rcases O:U.way j x with _|⟨y,l⟩
   ·have N:=ih x J.mem (Y.kid J.mem);simp only[O]at N;rw[O]at I;(repeat' (first|(with_reducible refine ab N ?_)|simp only[EV,seval,J.yes,J.le0,J.lt',J.row,hw,J.get,F]|(with_reducible intro M D;(try(have E:=D;simp only[EVK]at E;(have F:=AI E F))))|(with_reducible first|refine ag ?_ ?_|refine ai ?_)|fail))
    all_goals exact ak J () I (Weak.sub ((SubN.refl _).tail _))
   ·have N:=ih x J.mem (Y.kid J.mem);simp only[O]at N;rw[O]at I
    have e:gm u (U.ways j u.kids)=u::y::l:=by rw[I];rfl
    rw[e]at T V;simp only[length_cons]at V
    have aa:IntKind.i64.wrap ((l.length:Int)+1)=((l.length+1:Nat):Int):=by rw[av (by omega) (by omega)];omega
    have hf:fnd j u=fnd j x:=by
     unfold fnd;rw[sd,if_neg X,e,O];simp[getLastD_cons]
    (repeat' (first|(with_reducible (refine ae (λh=>?_) λh=>?_)<;>(try simp only[DZ]at h))|(with_reducible refine ab N ?_)|simp only[EV,seval,J.yes,J.le0,J.lt',J.row,hw,J.get,aa,F]|(with_reducible intro M D;(try(have E:=D;simp only[EVK]at E;(have F:=AI E F))))|(with_reducible first|refine ag ?_ ?_|refine ai ?_)|(exfalso;omega)|fail))
    all_goals(exact T _ _ (Or.inl (Or.inl (by rw[hf];rfl))))
  ·rw[I,sq]at T;(repeat' (simp only[EV,seval,hn,F]));exact T _ _ (Or.inl (Or.inl rfl))
end
def oq {α:Type} (p:α->Bool) (x:α) (r:List α) (i:Nat) (h:p x=false):(firstAt p (x::r)).map (· +i)=(firstAt p r).map (· +(i+1)):=by
 rw[firstAt,h];simp only[Bool.false_eq_true,if_false,Option.map_map];congr 1;funext y;simp only[Function.comp];omega
section
variable (G:Glob)
def f83 (j:Idd):∀(u:U),u.Tame->Pure G Tryz.prog 83 [.agg u.cs,.agg j.cs] (iZ j u):=by
 refine U.ind λu ih Y=>?_;have ac:=Y.kids;have hc:=Y.2;refine Pure.w c83 λR N=>?_;unfold s83 r83;unfold iZ at N;rw[tp]at N;simp only[Idd.cs,iZ]at ih;(repeat' (first|simp only[EV,seval,am]|(with_reducible intro M I;(try(have J:=I;simp only[EVK]at J;(have F:=J))))|fail));refine ap u.kids (λi r (c:Unit)=>firstAt (λk=>decide (k.id=j)) u.kids=(firstAt (λk=>decide (k.id=j)) r).map (· +i)) (λi c=>[(2,.ref u.cs),(3,.ref j.cs),(4,.p M),(7,.i i)]) (λi c=>[(M,.cells 27 zU)]) () (by cases firstAt (λk=>decide (k.id=j)) u.kids<;>simp) (dT _ _) (by omega) (λi x r c D E X=>?_) (λc D Z=>?_)
 ·by_cases h1:x.id=j
  ·have V:decide (x.id=j)=true:=decide_eq_true h1;rw[firstAt,if_pos V]at D;rw[D]at N;simp only[Option.map_some,Nat.zero_add]at N;(repeat' (simp only[EV,seval,E.yes,E.le0,E.lt',E.row,X,E.get,am,V,F]));exact N _ _ (Or.inl (Or.inl rfl))
  ·have V:decide (x.id=j)=false:=decide_eq_false h1;rw[oq _ x r i V]at D;(repeat' (simp only[EV,seval,E.yes,E.le0,E.lt',E.row,X,E.get,am,V,F]));exact ak E () D (dT _ _)
 ·rw[D]at N;simp only[firstAt,Option.map_none]at N;(repeat' (simp only[EV,seval,Z,F]));refine ap u.kids (λi r (c:Unit)=>U.pars j u.kids=U.pars j r) (λi c=>[(2,.ref u.cs),(3,.ref j.cs),(4,.p M),(8,.i i)]) (λi c=>[(M,.cells 27 zU)]) () rfl (dT _ _) (by omega) (λi x r c D E X=>?_) (λc D Z=>?_)
  ·rw[sG]at D;have O:=ih x E.mem (Y.kid E.mem)
   rcases T:U.par j x with _|⟨p,d,k⟩
   ·simp only[T]at O D;(repeat' (first|(with_reducible refine ab O ?_)|simp only[EV,seval,E.yes,E.le0,E.lt',E.row,X,E.get,F]|(with_reducible intro M I;(try(have J:=I;simp only[EVK]at J;(have F:=AI J F))))|(with_reducible first|refine ag ?_ ?_|refine ai ?_)|fail))
    all_goals exact ak E () D (Weak.sub ((SubN.refl _).tail _))
   ·simp only[T]at O D;rw[D]at N;simp only at N;have hd:=(li T).1;have ad:=(Y.kid E.mem).2
    have aa:IntKind.i64.wrap ((d:Int)+1)=((d+1:Nat):Int):=by rw[av (by omega) (by omega)];omega
    (repeat' (first|(with_reducible (refine ae (λh=>?_) λh=>?_)<;>(try simp only[DZ]at h))|(with_reducible refine ab O ?_)|simp only[EV,seval,E.yes,E.le0,E.lt',E.row,X,E.get,aa,F]|(with_reducible intro M I;(try(have J:=I;simp only[EVK]at J;(have F:=AI J F))))|(with_reducible first|refine ag ?_ ?_|refine ai ?_)|(exfalso;omega)|fail))
    all_goals exact N _ _ (Or.inl (Or.inl rfl))
  ·rw[D,tg]at N;(repeat' (simp only[EV,seval,Z,F]));exact N _ _ (Or.inl (Or.inl rfl))
def anc (j:Idd) (u:U):List Idd:=((U.way j u).dropLast.map U.id).reverse
def f288 (j:Idd) (u:U) (ht:u.Tame):Pure G Tryz.prog 288 [.agg u.cs,.agg j.cs] (.lst 3 ((anc j u).map Idd.cs)):=by
 have E:=f62 G j u ht;have aa:=eE j u;have hc:=ht.2;refine Pure.w c288 λR N=>?_;unfold s288 r288;unfold anc at N;simp only[Idd.cs]at E ⊢
 cases J:U.way j u with
 |nil=>
  rw[J]at E N;simp only[gL]at E;(repeat' (first|(with_reducible refine ab E ?_)|simp only[EV,seval]|fail));refine ap ([]:List U) (λi r (c:Unit)=>True) (λi c=>[(5,.nil),(6,.nil),(7,.i (-2))]) (λi c=>[]) () trivial (dT _ _) (by simp) (λi x r c I M hw=>?_) (λc I hn=>?_)
  ·exact absurd M.lt (by simp)
  ·(repeat' (simp only[EV,seval,hn]));exact N _ _ (Or.inl (Or.inr (by simp)))
 |cons y l=>
  have D:U.way j u≠[]:=by rw[J];simp
  rw[qj D]at E;obtain⟨L,hL⟩:∃L,U.way j u=L:=⟨_,rfl⟩;rw[hL]at E aa D N
  have ad:1<=L.length:=by cases L<;>simp_all
  have ac:IntKind.i64.wrap ((L.length:Int)-2)=(L.length:Int)-2:=av (by omega) (by omega);clear J hL
  have F:L.dropLast.reverse.length=L.length-1:=by simp
  (repeat' (first|(with_reducible refine ab E ?_)|simp only[EV,seval,ac]|fail));refine ap (ι:=Option Nat) L.dropLast.reverse (λi r c=>True) (λi c=>[(5,.own c 23 3 ((L.dropLast.reverse.take i).map λx=>x.id.cs)),(6,.lst 8 (L.map U.cs)),(7,.i ((L.length:Int)-2-i))]) (λi c=>tokS c 23 (i*3)) none trivial (Weak.of (by simp[cj,Env.get,AVle,aH]) (SubN.refl _)) (by omega) (λi x r c I M hw=>?_) (λc I hn=>?_)
  ·have hi:=M.lt;rw[F]at hi;have Y:decide ((0:Int)<=(L.length:Int)-2-i)=true:=decide_eq_true (by omega)
   have w1:IntKind.i64.wrap ((L.length:Int)-2-i-1)=(L.length:Int)-2-((i+1:Nat):Int):=by rw[av (by omega) (by omega)];omega
   have Z:((L.length:Int)-2-i).toNat=L.length-2-i:=by omega
   have hg:(L.map U.cs).getD (L.length-2-i) []=x.cs:=by
    have V:=M.get noU
    have X:L.dropLast.reverse[i]? =some x:=by
     rw[getD_eq_getElem?_getD]at V;rw[getElem?_eq_getElem (by rw[F];exact hi)]at V ⊢;simp at V ⊢;exact V
    rw[getElem?_reverse (by simp;omega),getElem?_dropLast]at X;simp only[length_dropLast]at X;rw[show L.length-1-1-i=L.length-2-i by omega,if_pos (by omega)]at X;simp only[List.getD,getElem?_map,X,Option.map_some,Option.getD_some]
   (repeat' (first|(with_reducible refine AI (by omega) ?_)|simp only[EV,seval,Y,w1,Z,hg]|(with_reducible intro ah O;(try(have T:=O;simp only[EVK]at T;(have al:=T))))|fail));refine aZ (n:=i) (m':=(i+1)*3) aS (by rw[length_map,length_take];omega) rfl rfl rfl (by assumption) (by omega) (λgn=>?_);refine ak M gn trivial ?_;simp only[M.take,map_append,map_cons,map_nil,Idd.cs];exact dT _ _
  ·have Y:decide ((0:Int)<=(L.length:Int)-2-(L.dropLast.reverse.length:Int))=false:=decide_eq_false (by rw[F];omega);(repeat' (simp only[EV,seval,Y]));exact N _ _ (Or.inl (Or.inr ⟨rfl,by rw[take_length,←map_reverse,map_map];rfl⟩))
end
end Go.Av
