/-
  LINT ON BOOKS, 3: what an act leaves undone on a book.
-/
import Derived.Test.YtppjieiiibgagaaGreatDoorQXM35toXN7
import Derived.Test.YtppjieiiibgagaaGreatDoorQXM5toXGo
import Derived.Test.YtppjieiiibgagaaGreatDoorQXL54toXM4
import Derived.Test.YtppjieiiibgagaaGreatDoorQXAv27toXL28
import Derived.Test.YtppjieiiibgagaaGreatDoorQXM11toXL44
import Derived.Test.YtppjieiiibgagaaGreatDoorQXQ1toXAv32
import Derived.Test.YtppjieiiibgagaaGreatDoorQXM9toXM10
import Derived.Test.YtppjieiiibgagaaGreatDoorQXDattoXCS
import Derived.Test.YtppjieiiibgagaaGreatDoorQXAv26toXGlob
import Derived.Test.YtppjieiiibgagaaGreatDoorProg
set_option linter.all false
namespace Go.Av
open Go Go.RowKit Go.Proofs List
def lt12 {k:Int} (h0:0<=k) (h7:k<12):k=0\/k=1\/k=2\/k=3\/k=4\/k=5\/k=6\/k=7\/k=8\/k=9\/k=10\/k=11:=by omega
section
variable (G:Glob)
def f44 (hN:G.tab 0=some (bl.map AV.str)) (k:Int) (h0:0<=k) (h1:k<12):Pure G Tryz.prog 44 [.i k] (.str (bl.getD k.toNat [])):=by
 have hg:=eval_g hN;refine Pure.w c44 λR hR=>?_;unfold s44 r44
 rcases lt12 h0 h1 with rfl|rfl|rfl|rfl|rfl|rfl|rfl|rfl|rfl|rfl|rfl|rfl<;>((repeat' (simp only[EV,seval,hg,bl,List.map,Int.toNat,List.drop,List.headD,List.length]));exact RET.eq hR rfl)
def f38 (a:Ac) (hl:a.items.length<1000000):Pure G Tryz.prog 38 [.agg a.cs] (.lst 28 (a.deeds.map Dd.cs)):=by
 unfold Ac.cs;refine Pure.w c38 λR hR=>?_;unfold s38 r38;(repeat' (first|simp only[EV,seval,hx.yes,hx.le0,hx.lt',hx.get,hx.row,hw]|simp only[EV,seval,hn]|simp only[EV,seval]|(with_reducible intro blk hblk;(try(have hnx:=hblk;simp only[EVK]at hnx;(have hne:=hnx))))|(refine⟨[],rfl,(by simp),rfl,?_⟩)|(refine ap (ι:=Option Nat) a.items (λi r c=>True) (λi c=>[(1,.ref [.i a.number,.str a.title,.i a.day,.i a.start.kind,.i a.start.day,.str a.start.event,.lst 25 (a.items.map Itm.cs)]),(3,.own c 36 28 ((bO a 0 (a.items.take i)).map Dd.cs)),(4,.i i)]) (λi c=>tokS c 36 (i*28)) (some blk) trivial (dT _ _) (by omega) (λi x r c hok hx hw=>?_) (λc hok hn=>?_))))
 ·have hi:=hx.lt;have hxl:=sE x;refine aZ (n:=i) (m':=(i+1)*28) aS (by rw[length_map,cd,length_take];omega) rfl rfl (by simp[hxl]) (by assumption) (by omega) (λgn=>?_);refine ak hx gn trivial ?_
  have e:(bO a 0 (a.items.take (i+1))).map Dd.cs=(bO a 0 (a.items.take i)).map Dd.cs++[Dd.cs ⟨a.number,(i:Int),a.day,x⟩]:=by
   have h1:(a.items.take i).length=i:=by rw[length_take];omega
   rw[hx.take,jo,h1,Nat.zero_add,map_append];rfl
  rw[e];exact dT _ _
 ·exact hR _ _ (Or.inl (Or.inr ⟨rfl,by rw[take_length];rfl⟩))
set_option maxHeartbeats 8000000 in
def f14 (hN:G.tab 0=some (bl.map AV.str)) (hG:GOk G) (u:U) (hu:Good u) (a:Ac) (hl:a.items.length<1000000) (hs:∀d∈a.deeds,d.it.Shorts):Pure G Tryz.prog 14 [.agg u.cs,.agg a.cs] (.lst 6 ((a.on u).map Fnd.cs)):=by
 have hA:=f43 G hG u hu a hl hs;have hmo:=kj a a.items 0 u;unfold Ac.on Ac.deeds at*;obtain⟨⟨v,m⟩,hvm⟩:∃z,allP u (bO a 0 a.items)=z:=⟨_,rfl⟩;rw[hvm]at hA hmo ⊢;unfold kx Ac.cs at hA;unfold Ac.cs;simp only at hA hmo ⊢;refine Pure.w c14 λR hR=>?_;unfold s14 r14;(repeat' (first|(with_reducible refine ab hA ?_)|simp only[EV,seval]|(with_reducible intro blk hblk;(try(have hnx:=hblk;simp only[EVK]at hnx;(have hne:=hnx))))));clear hnx hne
 have hml:m.length<=a.items.length:=by
  have:=kY (bO a 0 a.items) u;rw[hvm,cd]at this;exact this
 refine ap (ι:=Option Nat) m (λi r c=>True) (λi c=>[(3,.ref [.i a.number,.str a.title,.i a.day,.i a.start.kind,.i a.start.day,.str a.start.event,.lst 25 (a.items.map Itm.cs)]),(5,.own c 88 6 (((m.take i).map (onF a)).map Fnd.cs)),(16,.lst 3 (m.map Ms.cs)),(17,.i m.length),(18,.i i)]) (λi c=>tokS c 88 (i*6)) none trivial (Weak.of (by simp[cj,Env.get,AVle,aH]) (SubN.nil _)) (by omega) (λi x r c hok hx hw=>?_) (λc hok hn=>?_)
 ·have hne:=True.intro;obtain⟨hy0,j,y,hy1,hy2,hy3⟩:=hmo.2 x hx.mem;have hjl:j<a.items.length:=(List.getElem?_eq_some_iff.1 hy1).1
  have hi0:0<=x.item:=by omega
  have hi1:x.item<a.items.length:=by omega
  have hat:lx a x.item=y:=by
   unfold lx;rw[hy2,Nat.zero_add,Int.toNat_natCast,getD_eq_getElem?_getD,hy1];rfl
  have hg:(a.items.map Itm.cs).getD x.item.toNat []=y.cs:=by
   rw[hy2,Nat.zero_add,Int.toNat_natCast,getD_eq_getElem?_getD,getElem?_map,hy1];rfl
  have hyk:0<=y.kind/\y.kind<=6:=by simpa[chg]using hy3
  have hK:=f44 G hN y.kind (by omega) (by omega)
  have hrow:Fnd.cs (onF a x)=[.i x.item,.i 0,.i 0,.i 0,.i x.why,.str (bl.getD y.kind.toNat [])]:=by unfold onF;rw[hat];rfl
  have hy0':y.cs.headD .any= .i y.kind:=by rw[eH];rfl
  have hstep:((m.take (i+1)).map (onF a)).map Fnd.cs=((m.take i).map (onF a)).map Fnd.cs++[[.i x.item,.i 0,.i 0,.i 0,.i x.why,.str (bl.getD y.kind.toNat [])]]:=by
   rw[hx.take,map_append,map_append,map_cons,map_nil,map_cons,map_nil,hrow]
  clear hy1 hy2 hat;(repeat' (first|(with_reducible first|refine AI (by omega) ?_|refine ab hK ?_)|simp only[EV,seval,hx.yes,hx.le0,hx.lt',hx.get,hx.row,hw,Ms.cs,hg,hy0',sE,hne]|(with_reducible intro blk hblk;(try(have hnx:=hblk;simp only[EVK]at hnx;(have hne:=AI hnx hne))))|(with_reducible first|refine ag ?_ ?_|refine ai ?_)|(refine aZ (n:=i) (m':=(i+1)*6) (by exact bp (by assumption)) (by simp;have:=hx.lt;omega) rfl rfl rfl (by assumption) (by have:=hx.lt;omega) (λgn=>?_))|(refine ak hx gn trivial ?_)))
  all_goals(rw[hstep];exact dT _ _)
 ·(repeat' (simp only[EV,seval,hn]));exact hR _ _ (Or.inl (Or.inr ⟨rfl,by rw[take_length]⟩))
end
def W_stop2 {G:Glob} {P:Program} {R C A B X r r2:SCode} {i:Nat} {Q:Exit->Env->Store->Prop} {tQ:Tag Q} {env:Env} {σ:Store}
  (h:∀Y,Y=X->W G P (.seq (.seq R C) (.seq (.seq (.block i (.seq A (.seq B Y))) r) r2)) Q env σ ⟨⟩):W G P (.seq (.seq R C) (.seq (.seq (.block i (.seq A (.seq B X))) r) r2)) Q env σ tQ:=h X rfl
def fnd_flat (l:List Fnd):∀r∈l.map Fnd.cs,∀x∈r,x.flat=true:=by
 intro r hr x hx;obtain⟨f,_,rfl⟩:=mem_map.1 hr;rw[ko]at hx;simp only[mem_cons,not_mem_nil,or_false]at hx
 rcases hx with rfl|rfl|rfl|rfl|rfl|rfl<;>rfl
def oz (l:List Fnd):∀r∈l.map Fnd.cs,r.length=6:=by
 intro r hr;obtain⟨f,_,rfl⟩:=mem_map.1 hr;rfl
def W_seq_alt {G:Glob} {P:Program} {a b:SCode} {Q:Exit->Env->Store->Prop} {tQ:Tag Q} {env:Env} {σ:Store} {ι κ:Type} (ok:ι->Prop) (st:ι->Env) (alt:κ->ι->Env) (ss:ι->Store)
  (he:∀k j,ok j->W G P b Q (st j) (ss j) ⟨⟩->W G P b Q (alt k j) (ss j) ⟨⟩) (hb:∀j,ok j->W G P b Q (st j) (ss j) ⟨⟩)
  (ha:∀K:Env->Store->Prop,(∀j,ok j->K (st j) (ss j))->(∀k j,ok j->K (alt k j) (ss j))->W G P a (NR K Q ⟨⟩ ⟨⟩) env σ ⟨⟩):W G P (.seq a b) Q env σ tQ:=
 ha (λenv σ=>W G P b Q env σ ⟨⟩) hb λk j hj=>he k j hj (hb j hj)
def ia {G:Glob} {P:Program} {σ:Store} {env:Env} {K:AV->Store->Prop} {tK:Tag K} {t tx e e':TypeId} {sz bytes:Nat} {x y:Operand} {rows ys:List (List AV)} {d:KC} {new:List (List AV)} {n:Nat} (κ:Store)
  (hu:P.underlying t=some (.slice e)) (hk:P.underlying tx=some (.slice e')) (hi:(P.info? e).map (λi=>(i.size,i.bytes))=some (sz,bytes)) (hz:(da P e).map List.length=some sz) (hpos:sz≠0) (hb0:bytes≠0)
  (hσ:SubN (cSt e d rows++κ) σ) (hok:cOk sz d rows) (hxv:(SOpd.of x).eval G env=cAV d rows.length) (hys:srcX sz ((SOpd.of y).eval G env) λl=>l=ys) (hne:ys≠[]) (hnew:rows++ys=new) (hlen:new.length=n) (hbytes:(rows.length+ys.length)*bytes<=140737488355328)
  (hK:∀d',cOk sz d' new->(cSt e d' new++κ:Store).keys.Nodup->K (cAV d' n) (cSt e d' new++κ)):RAW G P (.call (.mk (.builtin .append) #[x,y] #[t,tx])) env σ K tK:=by
 subst hnew hlen
 refine mo (cSt e d rows) κ hσ ?_
 refine bZ hu hk hi hz hpos hb0 hxv (cWS hok) hys hbytes (λ_ h=>absurd h hne) (λb cap pad hb hle hcm hr hln hnd=>?_)
 rw[cErase]at hnd ⊢
 exact hK (some (b,cap,pad)) ⟨hle,hcm,hr,hln⟩ hnd
def put_step {n:Int} {l:List Fnd} {i:Nat} {x:Fnd} {r:List Fnd} (hx:Rest l i x r) (hi:i<(((l.take i).map (Fnd.put n)++l.drop i).map Fnd.cs).length):
  (((l.take i).map (Fnd.put n)++l.drop i).map Fnd.cs).set i (aJ (((l.take i).map (Fnd.put n)++l.drop i).map Fnd.cs)[i] 0 [.i n])=(((l.take (i+1)).map (Fnd.put n)++l.drop (i+1)).map Fnd.cs):=by
 rw[kQ hx hi,←oj hx]
 rfl
def put_nth {n:Int} {l:List Fnd} {i:Nat} {x:Fnd} {r:List Fnd} (hx:Rest l i x r) (hi:i<(((l.take (i+1)).map (Fnd.put n)++l.drop (i+1)).map Fnd.cs).length):
  (((l.take (i+1)).map (Fnd.put n)++l.drop (i+1)).map Fnd.cs)[i]=(x.put n).cs:=by
 have h1:=hx.lt
 rw[getElem_map,getElem_append_left (by simp;omega),getElem_map,getElem_take]
 have h2:=hx.get x
 congr 2
 simpa[h1]using h2
section
variable (G:Glob)
set_option maxHeartbeats 4000000 in
set_option maxRecDepth 100000 in
def f16 (a:Ac) (ht:a.title.length<4294967281) (hl:a.items.length<9000000000000000000) (hs:∀x∈a.items,x.Shorts):Pure G Tryz.prog 16 [.agg a.cs] (.lst 6 (a.chk.map Fnd.cs)):=by
 have hV:=f45 G a ht hl hs;refine Pure.w c16 λR hR=>?_;unfold s16 r16;unfold Ac.chk at hR;unfold Ac.cs at hV ⊢
 cases hm:a.may with
 |false=>
  rw[hm]at hV hR;(repeat' (first|(with_reducible refine ab hV ?_)|simp only[EV,seval]|(with_reducible intro blk hblk;(try(have hnx:=hblk;simp only[EVK]at hnx;(have hne:=hnx))))|(refine⟨[jZ.cs],rfl,(by simp[jZ,Fnd.cs]),rfl,?_⟩)|fail));exact hR _ _ (Or.inl (Or.inr ⟨rfl,rfl⟩))
 |true=>
  rw[hm]at hV;rw[hm,if_pos rfl]at hR
  have hlen:a.items.length<=32:=by
   unfold Ac.may at hm;simp only[Bool.and_eq_true,decide_eq_true_eq]at hm;exact hm.1.2
  (repeat' (first|(with_reducible refine ab hV ?_)|simp only[EV,seval]|(with_reducible intro blk hblk;(try(have hnx:=hblk;simp only[EVK]at hnx;(have hne:=hnx))))|(refine⟨[],rfl,(by simp),rfl,?_⟩)|fail));refine ap (ι:=Option Nat×List Fnd) a.items (λi r c=>a.chkFrom 0 a.items=c.2++a.chkFrom i r) (λi c=>[(1,.ref [.i a.number,.str a.title,.i a.day,.i a.start.kind,.i a.start.day,.str a.start.event,.lst 25 (a.items.map Itm.cs)]),(3,.own c.1 88 6 (c.2.map Fnd.cs)),(4,.i i)])
   (λi c=>tokS c.1 88 (c.2.length*6)) (some blk,[]) rfl (Weak.of (by simp[cj,Env.get,AVle,aH]) (SubN.refl _)) (by omega) (λi x r c hok hx hw=>?_) (λc hok hn=>?_)
  ·have hI:=aj.thaw (fnd_flat _) (f46o G x (hs x hx.mem));rw[←lV]at hI;refine W_stop2 λY hY=>?_;(try simp only[EV,seval,hx.yes,hx.le0,hx.lt',hx.row,hw,hx.get]);intro b5 hb5;(try simp only[EV,seval,hx.yes,hx.le0,hx.lt',hx.row,hw,hx.get]);refine aB [] _ hI.v (hU _) (SubN.refl _) ?_;rintro _ _ ⟨d,hd,rfl,rfl⟩ hnd;rw[length_map];(try simp only[EV,seval,hx.yes,hx.le0,hx.lt',hx.row,hw,hx.get]);subst hY;have hd5:b5∉(cSt 88 d (x.finds.map Fnd.cs)).keys:=cA hnd (by simp[Store.keys]);obtain⟨F1,hF1⟩:∃F,F=x.finds++optF (dupB a i x) (fw 5 tDup):=⟨_,rfl⟩;have hfl:=fV x
   have hF2:a.fnds i x=F1++ownF a x:=by rw[hF1];unfold Ac.fnds;rw[append_assoc]
   have hF1l:F1.length<=11:=by rw[hF1,length_append];have:=eO (dupB a i x) (fw 5 tDup);omega
   have hfn:=mV a i x
   have hcl:c.2.length<=384:=by
    have h1:=congrArg List.length hok;have h2:=gP a a.items 0;rw[length_append]at h1;omega
   refine qw (ι:=KC) (λd'=>cOk 6 d' (F1.map Fnd.cs)/\(Store.keys (cSt 88 d' (F1.map Fnd.cs)++(b5,AObj.cells 34 x.cs)::tokS c.1 88 (c.2.length*6))).Nodup)
    (λd'=>[(1,.ref [.i a.number,.str a.title,.i a.day,.i a.start.kind,.i a.start.day,.str a.start.event,.lst 25 (a.items.map Itm.cs)]),(3,.own c.1 88 6 (c.2.map Fnd.cs)),(4,.i i),(5,.p b5),(6,cAV d' F1.length)])
    (λd'=>cSt 88 d' (F1.map Fnd.cs)++(b5,AObj.cells 34 x.cs)::tokS c.1 88 (c.2.length*6)) ?_ ?_
   ·rintro d' ⟨hd',hnd'⟩;have hd5':b5∉(cSt 88 d' (F1.map Fnd.cs)).keys:=cA hnd' (by simp[Store.keys]);rw[W_assoc];refine W_seq_alt (ι:=KC) (κ:=Bool×Bool) (λd2=>cOk 6 d2 ((a.fnds i x).map Fnd.cs)/\(Store.keys (cSt 88 d2 ((a.fnds i x).map Fnd.cs)++(b5,AObj.cells 34 x.cs)::tokS c.1 88 (c.2.length*6))).Nodup)
     (λd2=>[(1,.ref [.i a.number,.str a.title,.i a.day,.i a.start.kind,.i a.start.day,.str a.start.event,.lst 25 (a.items.map Itm.cs)]),(3,.own c.1 88 6 (c.2.map Fnd.cs)),(4,.i i),(6,cAV d2 (a.fnds i x).length)])
     (λk d2=>match k.1 with
      |true=>[(1,.ref [.int .i64 a.number,.str a.title,.int .i64 a.day,.int .i64 a.start.kind,.int .i64 a.start.day,.str a.start.event,.lst 25 (a.items.map Itm.cs)]),(3,.own c.1 88 6 (c.2.map Fnd.cs)),(4,.int .i64 i),(5,.sc (.pointer (some ⟨b5,0,none⟩))),(6,cAV d2 (a.fnds i x).length),(66,.bool k.2)]
      |false=>[(1,.ref [.int .i64 a.number,.str a.title,.int .i64 a.day,.int .i64 a.start.kind,.int .i64 a.start.day,.str a.start.event,.lst 25 (a.items.map Itm.cs)]),(3,.own c.1 88 6 (c.2.map Fnd.cs)),(4,.int .i64 i),(6,cAV d2 (a.fnds i x).length),(89,.bool k.2)])
     (λd2=>cSt 88 d2 ((a.fnds i x).map Fnd.cs)++(b5,AObj.cells 34 x.cs)::tokS c.1 88 (c.2.length*6)) ?_ ?_ ?_
    ·rintro⟨_|_,z⟩ d2 _ h
     ·(try simp only[EV,seval,hw]);(try simp only[EV,seval,hw]at h);exact h
     ·(try simp only[EV,seval,hw]);(try simp only[EV,seval,hw]at h);exact h
    ·rintro d2 ⟨hd2,hnd2⟩;(try simp only[EV,seval,hw]);refine ap (ι:=KC×Option Nat×List Fnd) (a.fnds i x) (λk r e=>cOk 6 e.1 ((((a.fnds i x).take k).map (Fnd.put i)++(a.fnds i x).drop k).map Fnd.cs)/\(Store.keys (cSt 88 e.1 ((((a.fnds i x).take k).map (Fnd.put i)++(a.fnds i x).drop k).map Fnd.cs)++tokS e.2.1 88 (e.2.2.length*6))).Nodup/\c.2++(a.fnds i x).map (Fnd.put i)=e.2.2++r.map (Fnd.put i))
      (λk e=>[(1,.ref [.i a.number,.str a.title,.i a.day,.i a.start.kind,.i a.start.day,.str a.start.event,.lst 25 (a.items.map Itm.cs)]),(3,.own e.2.1 88 6 (e.2.2.map Fnd.cs)),(4,.i i),(6,cAV e.1 (a.fnds i x).length),(9,.i k)])
      (λk e=>cSt 88 e.1 ((((a.fnds i x).take k).map (Fnd.put i)++(a.fnds i x).drop k).map Fnd.cs)++tokS e.2.1 88 (e.2.2.length*6)) (d2,c.1,c.2) ⟨by simpa using hd2,by simpa using(sO ((SubN.refl _).tail _)).2 hnd2,rfl⟩
      (by simp only[take_zero,map_nil,nil_append,drop_zero];exact Weak.sub (sO ((SubN.refl _).tail _))) (by omega) (λk y r2 e hok2 hy hwk=>?_) (λe hok2 hnk=>?_)
     ·obtain⟨d3,o,l3⟩:=e;obtain⟨hd3,hnd3,hok2⟩:=hok2;simp only at hd3 hnd3 hok2 ⊢;have h12:=congrArg List.length hok2;simp only[length_append,length_map,length_cons]at h12;have hm0:=oK (g:=Fnd.put i) (f:=Fnd.cs) hy
      rcases d3 with _|⟨b,cap,pad⟩
      ·exfalso;have h9:((((a.fnds i x).take k).map (Fnd.put i)++(a.fnds i x).drop k).map Fnd.cs)=[]:=hd3;rw[h9]at hm0;have:=hy.lt;simp at hm0;omega
      ·obtain⟨hle,hcm,hrl,hln⟩:=hd3
       have hi:k<((((a.fnds i x).take k).map (Fnd.put i)++(a.fnds i x).drop k).map Fnd.cs).length:=by rw[hm0];exact hy.lt
       have hm1:=jF (g:=Fnd.put i) (f:=Fnd.cs) hy;have hstep:=put_step (n:=i) hy hi;have hsp:=dM (sz:=6) (off:=0) (c:=[.i i]) (by simp) (pad:=pad) hrl hi;rw[hstep]at hsp
       have hi1:k<((((a.fnds i x).take (k+1)).map (Fnd.put i)++(a.fnds i x).drop (k+1)).map Fnd.cs).length:=by rw[hm1];exact hy.lt
       have htk:=iO (pad:=pad) (oz _) hi1;rw[put_nth hy hi1]at htk
       have hln1:(((((a.fnds i x).take (k+1)).map (Fnd.put i)++(a.fnds i x).drop (k+1)).map Fnd.cs).flatten++pad).length=cap*6:=by rw[←hln,length_append,length_append,az _ (oz _),az _ hrl,hm0,hm1]
       have hlt:=hy.lt;rw[hm0]at hle
       have hq1:k*6+0+1<=(((((a.fnds i x).take k).map (Fnd.put i)++(a.fnds i x).drop k).map Fnd.cs).flatten++pad).length:=by rw[hln];omega
       have hq2:6<=(List.drop (k*6) (((((a.fnds i x).take (k+1)).map (Fnd.put i)++(a.fnds i x).drop (k+1)).map Fnd.cs).flatten++pad)).length:=by rw[length_drop,hln1];omega
       simp only[cAV,cSt]at hnd3 ⊢;(try simp only[EV,seval,hy.yes,hy.le0,hy.lt',hwk,Nat.zero_add,append_eq,hsp,htk]);refine⟨hq1,hq2,?_⟩;intro blk hblk;refine eM [(b,.cells 88 (((((a.fnds i x).take (k+1)).map (Fnd.put i)++(a.fnds i x).drop (k+1)).map Fnd.cs).flatten++pad))] (n:=l3.length) (m':=(l3.length+1)*6) rfl ?_ (by simp) rfl rfl rfl hblk (by omega) (λg' hg'=>?_)
       ·rintro q rfl hm;simp[tokS,Store.keys]at hnd3 hm;exact hnd3 hm.symm
       (try simp only[EV,seval,hwk]);refine ak hy (some (b,cap,pad),g',l3++[y.put i]) ⟨⟨by rw[hm1];exact hle,hcm,oz _,hln1⟩,?_,by rw[hok2];simp⟩ ?_
       ·cases g' with
        |none=>simp[cSt,tokS,Store.keys]
        |some q=>
         have:=hg' q rfl;simp[Store.keys]at this;simp[cSt,tokS,Store.keys];exact λe=>this e.symm
       ·simp only[cSt,cAV,map_append,map_cons,map_nil,put_cs,length_append,length_cons,length_nil,Nat.zero_add,cons_append,nil_append];exact dT _ _
     ·obtain⟨d3,o,l3⟩:=e;obtain⟨hd3,hnd3,hok2⟩:=hok2;simp only at hd3 hnd3 hok2 ⊢
      have fin:a.chkFrom 0 a.items=l3++a.chkFrom (i+1) r:=by
       rw[hok,Ac.chkFrom,←append_assoc,hok2];simp
      rcases d3 with _|⟨b,cap,pad⟩
      ·simp only[cAV]at*;have h9:(((a.fnds i x).take (a.fnds i x).length).map (Fnd.put i)++(a.fnds i x).drop (a.fnds i x).length).map Fnd.cs=[]:=hd3
       have h10:(a.fnds i x).length=0:=by simpa using congrArg List.length h9
       (try simp only[EV,seval,hnk,hw,h10]);exact ak hx (o,l3) fin (Weak.sub tD)
      ·simp only[cAV]at*;(try simp only[EV,seval,hnk,hw]);exact ak hx (o,l3) fin (Weak.sub tD)
    ·intro K hK hK2;by_cases hin:0<=x.item/\x.item<a.items.length
     ·obtain⟨hi0,hi1⟩:=hin;have hg:=p8 a.items x.item hi0 hi1
      have hyk:0<=(a.items.getD x.item.toNat iz).kind:=by
       have hmem:a.items.getD x.item.toNat iz∈a.items:=by
        have hlt:x.item.toNat<a.items.length:=by omega
        simp[List.getD,hlt]
       have h1:a.items.all Itm.may=true:=by
        unfold Ac.may at hm;simp only[Bool.and_eq_true]at hm;exact hm.2
       exact(gt (all_eq_true.1 h1 _ hmem)).1
      (repeat' (first|(with_reducible (first|refine ae (λh=>?_) λh=>?_|refine af (λh=>?_) λh=>?_)<;>(try simp only[DZ]at h))|(with_reducible first|refine AI (by omega) ?_|refine ab (f48 G _ _) ?_)|simp only[EV,seval,hw,ao hd5',ao hd5,hg]|(with_reducible intro blk hblk;(try(have hnx:=hblk;simp only[EVK]at hnx;(have hne:=hnx))))|(exfalso;omega)|fail))
      all_goals first
      |(have ho:ownF a x=[]:=(by
        unfold ownF ownB misB notB optF inR
        simp only[Bool.and_eq_true,Bool.or_eq_true,decide_eq_true_eq,Bool.not_eq_true',Bool.and_eq_false_iff,decide_eq_false_iff_not]
        repeat' split
        all_goals first|rfl|(exfalso;omega))
        have e:a.fnds i x=F1:=by rw[hF2,ho,append_nil]
        rw[e]at hK2
        first|exact hK2 (true,_) d' ⟨hd',hnd'⟩|exact hK2 (false,_) d' ⟨hd',hnd'⟩)
      |(have ho:ownF a x=[fw 4 cL]:=(by
        unfold ownF ownB misB notB optF inR
        simp only[Bool.and_eq_true,Bool.or_eq_true,decide_eq_true_eq,Bool.not_eq_true',Bool.and_eq_false_iff,decide_eq_false_iff_not]
        repeat' split
        all_goals first|rfl|(exfalso;omega))
        have e:a.fnds i x=F1++[fw 4 cL]:=by rw[hF2,ho]
        refine⟨[(fw 4 cL).cs],rfl,by simp[db],rfl,?_⟩
        refine ia (d:=d') (e:=88) (e':=88) (sz:=6) (bytes:=56) (rows:=F1.map Fnd.cs) (ys:=[(fw 4 cL).cs]) (new:=(a.fnds i x).map Fnd.cs) (n:=(a.fnds i x).length) ((b5,AObj.cells 34 x.cs)::tokS c.1 88 (c.2.length*6)) (by kernel_rfl) (by kernel_rfl) (by kernel_rfl) (by kernel_rfl) (by decide) (by decide) ((SubN.refl _).tail _) hd' (by rw[length_map];rfl) ⟨rfl,rfl⟩ (by simp) (by rw[e];simp) (by simp) (by simp only[length_map,length_cons,length_nil];omega) (λd2 hd2 hnd2=>?_)
        (try simp only[EV,seval,hw])
        exact hK d2 ⟨hd2,hnd2⟩)
      |(have ho:ownF a x=[fw 9 ey]:=(by
        unfold ownF ownB misB notB optF inR
        simp only[Bool.and_eq_true,Bool.or_eq_true,decide_eq_true_eq,Bool.not_eq_true',Bool.and_eq_false_iff,decide_eq_false_iff_not]
        repeat' split
        all_goals first|rfl|(exfalso;omega))
        have e:a.fnds i x=F1++[fw 9 ey]:=by rw[hF2,ho]
        refine⟨[(fw 9 ey).cs],rfl,by simp[db],rfl,?_⟩
        refine ia (d:=d') (e:=88) (e':=88) (sz:=6) (bytes:=56) (rows:=F1.map Fnd.cs) (ys:=[(fw 9 ey).cs]) (new:=(a.fnds i x).map Fnd.cs) (n:=(a.fnds i x).length) ((b5,AObj.cells 34 x.cs)::tokS c.1 88 (c.2.length*6)) (by kernel_rfl) (by kernel_rfl) (by kernel_rfl) (by kernel_rfl) (by decide) (by decide) ((SubN.refl _).tail _) hd' (by rw[length_map];rfl) ⟨rfl,rfl⟩ (by simp) (by rw[e];simp) (by simp) (by simp only[length_map,length_cons,length_nil];omega) (λd2 hd2 hnd2=>?_)
        (try simp only[EV,seval,hw])
        exact hK d2 ⟨hd2,hnd2⟩)
     ·(repeat' (first|(with_reducible (first|refine ae (λh=>?_) λh=>?_|refine af (λh=>?_) λh=>?_)<;>(try simp only[DZ]at h))|(with_reducible first|refine AI (by omega) ?_|refine ab (f48 G _ _) ?_)|simp only[EV,seval,hw,ao hd5',ao hd5]|(with_reducible intro blk hblk;(try(have hnx:=hblk;simp only[EVK]at hnx;(have hne:=hnx))))|(exfalso;omega)|fail))
      all_goals first
      |(have ho:ownF a x=[]:=(by
        unfold ownF ownB misB notB optF inR
        simp only[Bool.and_eq_true,Bool.or_eq_true,decide_eq_true_eq,Bool.not_eq_true',Bool.and_eq_false_iff,decide_eq_false_iff_not]
        repeat' split
        all_goals first|rfl|(exfalso;omega))
        have e:a.fnds i x=F1:=by rw[hF2,ho,append_nil]
        rw[e]at hK2
        first|exact hK2 (true,_) d' ⟨hd',hnd'⟩|exact hK2 (false,_) d' ⟨hd',hnd'⟩)
      |(have ho:ownF a x=[fw 4 cL]:=(by
        unfold ownF ownB misB notB optF inR
        simp only[Bool.and_eq_true,Bool.or_eq_true,decide_eq_true_eq,Bool.not_eq_true',Bool.and_eq_false_iff,decide_eq_false_iff_not]
        repeat' split
        all_goals first|rfl|(exfalso;omega))
        have e:a.fnds i x=F1++[fw 4 cL]:=by rw[hF2,ho]
        refine⟨[(fw 4 cL).cs],rfl,by simp[db],rfl,?_⟩
        refine ia (d:=d') (e:=88) (e':=88) (sz:=6) (bytes:=56) (rows:=F1.map Fnd.cs) (ys:=[(fw 4 cL).cs]) (new:=(a.fnds i x).map Fnd.cs) (n:=(a.fnds i x).length) ((b5,AObj.cells 34 x.cs)::tokS c.1 88 (c.2.length*6)) (by kernel_rfl) (by kernel_rfl) (by kernel_rfl) (by kernel_rfl) (by decide) (by decide) ((SubN.refl _).tail _) hd' (by rw[length_map];rfl) ⟨rfl,rfl⟩ (by simp) (by rw[e];simp) (by simp) (by simp only[length_map,length_cons,length_nil];omega) (λd2 hd2 hnd2=>?_)
        (try simp only[EV,seval,hw])
        exact hK d2 ⟨hd2,hnd2⟩)
      |(have ho:ownF a x=[fw 9 ey]:=(by
        unfold ownF ownB misB notB optF inR
        simp only[Bool.and_eq_true,Bool.or_eq_true,decide_eq_true_eq,Bool.not_eq_true',Bool.and_eq_false_iff,decide_eq_false_iff_not]
        repeat' split
        all_goals rfl)
        have e:a.fnds i x=F1++[fw 9 ey]:=by rw[hF2,ho]
        refine⟨[(fw 9 ey).cs],rfl,by simp[db],rfl,?_⟩
        refine ia (d:=d') (e:=88) (e':=88) (sz:=6) (bytes:=56) (rows:=F1.map Fnd.cs) (ys:=[(fw 9 ey).cs]) (new:=(a.fnds i x).map Fnd.cs) (n:=(a.fnds i x).length) ((b5,AObj.cells 34 x.cs)::tokS c.1 88 (c.2.length*6)) (by kernel_rfl) (by kernel_rfl) (by kernel_rfl) (by kernel_rfl) (by decide) (by decide) ((SubN.refl _).tail _) hd' (by rw[length_map];rfl) ⟨rfl,rfl⟩ (by simp) (by rw[e];simp) (by simp) (by simp only[length_map,length_cons,length_nil];omega) (λd2 hd2 hnd2=>?_)
        (try simp only[EV,seval,hw])
        exact hK d2 ⟨hd2,hnd2⟩)
   ·intro K hK;(try simp only[EV,seval,hw]);refine lX a.items i (Nat.le_of_lt hx.lt) (λk (c:Unit)=>∀y∈a.items.take k,¬y=x) (λk _=>[(1,.ref [.i a.number,.str a.title,.i a.day,.i a.start.kind,.i a.start.day,.str a.start.event,.lst 25 (a.items.map Itm.cs)]),(3,.own c.1 88 6 (c.2.map Fnd.cs)),(4,.i i),(5,.p b5),(6,cAV d x.finds.length),(7,.i k)])
     (λ_ _=>cSt 88 d (x.finds.map Fnd.cs)++(b5,AObj.cells 34 x.cs)::tokS c.1 88 (c.2.length*6)) () (by simp) (dT _ _) (by have:=hx.lt;omega) (λk y _ hk hy hwk=>?_) (λ_ hk hnk=>?_)
    ·have hS:=f47 G y (((o5 y).1 (hs y (mem_of_mem_take hy.mem))).1.fit) x;(repeat' (first|(with_reducible (refine ae (λh=>?_) λh=>?_)<;>(try simp only[DZ]at h))|(with_reducible first|refine ab hS ?_|refine ab (f48 G _ _) ?_)|simp only[EV,seval,hy.yes,hy.le0,hy.lt',hy.row,hwk,hx.le0,hx.lt',ao hd5]|(with_reducible intro blk hblk;(try(have hnx:=hblk;simp only[EVK]at hnx;(have hne:=hnx))))|(with_reducible first|refine ag ?_ ?_|refine ai ?_)|fail))
     all_goals first
     |(refine jD hy () ?_ (dT _ _)
       intro z hz
       rw[hy.take,mem_append,mem_singleton]at hz
       rcases hz with hz|rfl
       ·exact hk z hz
       ·assumption)
     |(have hdb:dupB a i x=true:=any_eq_true.2 ⟨y,hy.mem,by simpa using h⟩
       rw[hdb]at hF1
       simp only[optF,if_true]at hF1
       refine⟨[(fw 5 tDup).cs],rfl,by simp[db],rfl,?_⟩
       refine ia (d:=d) (e:=88) (e':=88) (sz:=6) (bytes:=56) (rows:=x.finds.map Fnd.cs) (ys:=[(fw 5 tDup).cs]) (new:=F1.map Fnd.cs) (n:=F1.length) ((b5,AObj.cells 34 x.cs)::tokS c.1 88 (c.2.length*6)) (by kernel_rfl) (by kernel_rfl) (by kernel_rfl) (by kernel_rfl) (by decide) (by decide) ((SubN.refl _).tail _) hd (by rw[length_map];rfl) ⟨rfl,rfl⟩ (by simp) (by rw[hF1];simp) (by simp) (by simp only[length_map,length_cons,length_nil];omega) (λd' hd' hnd'=>?_)
       (try simp only[EV,seval,hw])
       exact hK d' ⟨hd',hnd'⟩)
    ·(try simp only[EV,seval,hnk,hw])
     have hdb:dupB a i x=false:=by
      unfold dupB;rw[any_eq_false];intro y hy;simpa using hk y hy
     rw[hdb]at hF1;simp only[optF,Bool.false_eq_true,if_false,append_nil]at hF1;subst hF1;exact hK d ⟨hd,hnd⟩
  ·(repeat' (simp only[EV,seval,hn]));exact hR _ _ (Or.inl (Or.inr ⟨rfl,by rw[hok];simp[Ac.chkFrom]⟩))
end
def few_act {a:Ac} (hf:∀x∈a.items,x.fit) (h:a.few=true):a.items.length<=40/\a.title.length<=300/\a.start.event.length<=100/\∀x∈a.items,x.Shorts:=by
 unfold Ac.few at h;simp only[Bool.and_eq_true,decide_eq_true_eq]at h;exact⟨h.1.1.1,h.1.1.2,h.1.2,λx hx=>qu x (hf x hx) (all_eq_true.1 h.2 x hx)⟩
section
variable (G:Glob) (hG:GOk G) (hG2:GOk2 G)
include hG hG2
end
def fineB (u:U) (a:Ac):Bool:=u.few 30&&(kv u&&(a.few&&gF u.ids [] a.deeds))
section
variable (G:Glob) (hN:G.tab 0=some (bl.map AV.str)) (hG:GOk G) (hG2:GOk2 G)
def f10 (u:U) (hfit:u.fit) (a:Ac) (hl:a.items.length<1000000000000000000) (hf:∀x∈a.items,x.fit):Pure G Tryz.prog 10 [.agg u.cs,.agg a.cs] (.bool (fineB u a)):=by
 have hW:=f17 G u 30 hfit (by omega) (by omega);have hQ:=f37 G a (by omega) hf;refine Pure.w c10 λR hR=>?_;unfold s10 r10;unfold fineB at hR
 cases h1:u.few 30 with
 |false=>
  rw[h1]at hW hR;unfold Ac.cs;(repeat' (first|(with_reducible refine ab hW ?_)|simp only[EV,seval]|fail))
  all_goals exact RQ hR
 |true=>
 have hs:=md hfit (by omega) (by omega) h1;have hB:=f18 G u hs
 cases h2:kv u with
 |false=>
  rw[h1]at hW;rw[h1,h2]at hR;rw[h2]at hB;unfold Ac.cs;(repeat' (first|(with_reducible first|refine ab hW ?_|refine ab hB ?_)|simp only[EV,seval]|fail))
  all_goals exact RQ hR
 |true=>
 rw[h2]at hB
 cases h3:a.few with
 |false=>
  rw[h1]at hW;rw[h1,h2,h3]at hR;rw[h3]at hQ;unfold Ac.cs at hQ ⊢;(repeat' (first|(with_reducible first|refine ab hW ?_|refine ab hB ?_|refine ab hQ ?_)|simp only[EV,seval]|fail))
  all_goals exact RQ hR
 |true=>
 obtain⟨h40,_,_,_⟩:=few_act hf h3;have hD:=f38 G a (by omega);have hFr:=f20 G u hs.1 a.deeds (by unfold Ac.deeds;rw[cd];omega);rw[h1]at hW;rw[h1,h2,h3]at hR;rw[h3]at hQ;simp only[Bool.true_and]at hR;unfold Ac.cs at hQ hD ⊢;(repeat' (first|(with_reducible first|refine ab hW ?_|refine ab hB ?_|refine ab hQ ?_|refine ab hD ?_|refine ab hFr ?_)|simp only[EV,seval]|fail))
 all_goals exact RQ hR
include hN hG hG2
def f15 (u:U) (hu:Good u) (a:Ac) (ht:a.title.length<4294967281) (he:a.start.event.length<1000000000000000000) (hl:a.items.length<1000000) (hs:∀x∈a.items,x.Shorts):Pure G Tryz.prog 15 [.agg u.cs,.agg a.cs] (.bool (decide ((a.chk.length:Int)=0)&&decide (((a.on u).length:Int)=0))):=by
 have h1:=f40 G hG hG2 a ht he (by omega) hs;have h2:=f14 G hN hG u hu a hl (λd hd=>hs _ (gy a hd));refine Pure.w c15 λR hR=>?_;unfold s15 r15;unfold Ac.cs at h1 h2 ⊢;(repeat' (first|(with_reducible (refine af (λh=>?_) λh=>?_)<;>(try simp only[DZ]at h))|(with_reducible first|refine ab h1 ?_|refine ab h2 ?_)|simp only[EV,seval]|fail))
 ·exact RET.eq hR (by rw[decide_eq_true h,Bool.true_and])
 ·exact RET.eq hR (by rw[decide_eq_false h,Bool.false_and])
end
end Go.Av
