/-
  TOP, 18: the items of acts, enacted; corrections.
-/
import Derived.Test.YtjdccoplpljmlaaGreatDoorVXY15toXAv36
import Derived.Test.YtjdccoplpljmlaaGreatDoorVXM31toXM33
namespace Go.Av
open Go Go.RowKit Go.Proofs List
set_option linter.unusedSimpArgs false
set_option linter.unusedVariables false
/-! ### maps from places to items -/
def gR (k:Int×Int):List Value:=[.int .i64 k.1,.int .i64 k.2]
def jq (k:Int×Int):Value:=.agg (gR k).toArray
theorem eqK_pl (a b:Int×Int):eqK [1,1] (gR a) (gR b)=some (decide (a=b)):=by
 obtain⟨E,F⟩:=a
 obtain⟨I,J⟩:=b
 simp only[gR,eqK,if_true,Option.map_some]
 congr 1
 rw[Bool.eq_iff_iff];simp
theorem jy:MapK Tryz.prog 244 jq:=
 iX (fs:=Tryz.prog.fieldsOf 244) (ks:=[1,1]) (by kernel_rfl) (by kernel_rfl) gR (λ_=>rfl) eqK_pl (λk v E n=>by
  simp only[gR,mem_cons,not_mem_nil,or_false]at E
  rcases E with rfl|rfl<;>exact fk _ _ _)
theorem mr (i j:Int):∀τ w v,Rep τ w (.agg [.int .i64 i,.int .i64 j]) v->v=jq (i,j):=by
 intro τ w v h
 simp only[Rep,RepL]at h
 obtain⟨vs,rfl,_,u,us,E,rfl,I,F,rfl,rfl,rfl⟩:=h
 simp[jq,gR,←E]
def MI (Q:Itm->Prop) (l:List ((Int×Int)×AV)):Prop:=∀p∈l,∃y:Itm,Q y/\p.2= .agg y.cs
theorem MI.get {Q:Itm->Prop} {l:List ((Int×Int)×AV)} (h:MI Q l) (k:Int×Int):aN k l=none\/∃y:Itm,Q y/\aN k l=some (.agg y.cs):=by
 induction l with
 |nil=>exact .inl rfl
 |cons p l ih=>
  simp only[aN]
  split
  ·obtain⟨y,E,F⟩:=h p (by simp)
   exact .inr ⟨y,E,by rw[F]⟩
  ·exact ih λq I=>h q (by simp[I])
theorem MI.put {Q:Itm->Prop} {l:List ((Int×Int)×AV)} (h:MI Q l) (k:Int×Int) {y:Itm} (F:Q y):MI Q (bu k (.agg y.cs) l):=by
 induction l with
 |nil=>intro p E;simp only[bu,mem_singleton]at E;subst E;exact⟨y,F,rfl⟩
 |cons q l ih=>
  simp only[bu]
  split
  ·intro p E
   rcases mem_cons.1 E with rfl|E
   ·exact⟨y,F,rfl⟩
   ·exact h p (by simp[E])
  ·intro p E
   rcases mem_cons.1 E with rfl|E
   ·exact h p (by simp)
   ·exact ih (λq I=>h q (by simp[I])) p E
section
variable (G:Glob)
set_option maxRecDepth 8000 in
set_option maxHeartbeats 8000000 in
theorem f221 (a:Ac) (hl:a.items.length<1000):
  aj G Tryz.prog 221 [.agg a.cs] [] (λr σ'=>σ'=[]/\∃ds:List Dd,(ds.length<=a.items.length/\∀d∈ds,d.it∈a.items)/\r= .lst 28 (ds.map Dd.cs)):=by
 refine aj.w c221 ?_
 unfold s221 r221
 unfold Ac.cs
 (repeat' (first|(with_reducible (first|refine ab (λh=>?_) (λh=>?_)|refine ai (λh=>?_) (λh=>?_)|refine ak (λh=>?_) (λh=>?_))<;>(try simp only[DZ]at h))|(with_reducible refine AI (by omega) ?_)|simp only[EVz,seval,↓reduceIte,EV6,EV7]|(with_reducible intro blk hblk;(try(have hnx:=hblk;simp only[EVK]at hnx;first|(have hne:=AI hnx hne)|(have hne:=hnx))))|(with_reducible first|refine ae ?_ ?_|refine af ?_)|(exfalso;omega)))
 refine ax (ι:=List Dd×Option Nat) a.items (λi r c=>c.1.length<=i/\∀d∈c.1,d.it∈a.items) (λi c=>[(1,.ref [.int .i64 a.number,.str a.title,.int .i64 a.day,.int .i64 a.start.kind,.int .i64 a.start.day,.str a.start.event,.lst 25 (a.items.map Itm.cs)]),(3,.own c.2 159 28 (c.1.map Dd.cs)),(7,.lst 25 (a.items.map Itm.cs)),(8,.int .i64 a.items.length),(9,.int .i64 i)]) (λi c=>tokS c.2 159 (c.1.length*28)) ([],none) ⟨Nat.zero_le _,λd hd=>by cases hd⟩ (Weak.of (by simp[dI,Env.get,AVle,aU]) (SubN.refl _)) (by omega) (λi x r c hok hx hw=>?_) (λc hok hn=>?_)
 ·obtain⟨ds,c⟩:=c
  obtain⟨hc1,hc2⟩:=hok
  simp only at hc1 hc2 ⊢
  have hil:=hx.lt
  have hne:=True.intro
  (repeat' (first|(with_reducible (first|refine ab (λh=>?_) (λh=>?_)|refine ai (λh=>?_) (λh=>?_)|refine ak (λh=>?_) (λh=>?_))<;>(try simp only[DZ]at h))|(with_reducible refine AI (by omega) ?_)|simp only[EVz,seval,↓reduceIte,EV6,EV7,hx.yes,hx.le0,hx.lt',hx.get,hx.row,hw,Itm.cs_eq,hne]|simp only[EVz,seval,↓reduceIte,EV6,EV7,hx.yes,hx.le0,hx.lt',hx.get,hx.row,hw,Itm.cs_eq]|(with_reducible intro blk hblk;(try(have hnx:=hblk;simp only[EVK]at hnx;first|(have hne:=AI hnx hne)|(have hne:=hnx))))|(with_reducible first|refine ae ?_ ?_|refine af ?_)|(refine⟨[Dd.cs ⟨a.number,i,a.day,x⟩],rfl,(by simp[Dd.cs_len]),(by simp[Dd.cs_eq]),?_⟩)|(exfalso;omega)))
  refine app_lst (gH (by assumption) (by assumption)) (by rw[length_map]) rfl (by rw[length_map];simp;omega) (λgn=>?_)
  refine am hx (ds++[⟨a.number,i,a.day,x⟩],gn) ⟨by simp only[length_append,length_cons,length_nil];omega,λd hd=>?_⟩ ?_
  ·rcases mem_append.1 hd with hd|hd
   ·exact hc2 d hd
   ·simp only[mem_singleton]at hd
    subst hd
    exact hx.mem
  ·simp only[map_append,map_cons,map_nil,length_append,length_map,length_cons,length_nil]
   exact Weak.rfl' _ _
 ·obtain⟨ds,c⟩:=c
  (repeat' (first|(with_reducible (first|refine ab (λh=>?_) (λh=>?_)|refine ai (λh=>?_) (λh=>?_)|refine ak (λh=>?_) (λh=>?_))<;>(try simp only[DZ]at h))|(with_reducible refine AI (by omega) ?_)|simp only[EVz,seval,↓reduceIte,EV6,EV7,hn]|(with_reducible intro blk hblk;(try(have hnx:=hblk;simp only[EVK]at hnx;first|(have hne:=AI hnx hne)|(have hne:=hnx))))|(with_reducible first|refine ae ?_ ?_|refine af ?_)|(exfalso;omega)))
  all_goals exact⟨.lst 28 (ds.map Dd.cs),[],.inl (.inr ⟨rfl,rfl⟩),SubN.nil _,rfl,ds,hok,rfl⟩
set_option maxRecDepth 8000 in
set_option maxHeartbeats 16000000 in
theorem f220 (Q:Itm->Prop) (zs:List Ac) (hzl:zs.length<=64) (hil:∀a∈zs,a.items.length<1000) (hQ:∀a∈zs,∀x∈a.items,∀y∈x.by_,Q y):
  aj G Tryz.prog 220 [.lst 7 (zs.map Ac.cs)] [] (λr σ'=>∃b l,r= .sc (.map (some b))/\σ'=[(b,.map (bB jq l))]/\MI Q l):=by
 refine aj.w c220 ?_
 unfold s220 r220
 (try simp only[EVz,seval,↓reduceIte,EV6,EV7])
 refine cc ?_
 intro bm hbm
 (repeat' (first|(with_reducible (first|refine ab (λh=>?_) (λh=>?_)|refine ai (λh=>?_) (λh=>?_)|refine ak (λh=>?_) (λh=>?_))<;>(try simp only[DZ]at h))|(with_reducible refine AI (by omega) ?_)|simp only[EVz,seval,↓reduceIte,EV6,EV7]|(with_reducible intro blk hblk;(try(have hnx:=hblk;simp only[EVK]at hnx;first|(have hne:=AI hnx hne)|(have hne:=hnx))))|(with_reducible first|refine ae ?_ ?_|refine af ?_)|(exfalso;omega)))
 refine ax (ι:=List ((Int×Int)×AV)) zs (λi r l=>MI Q l) (λi l=>[(3,.sc (.map (some bm))),(9,.lst 7 (zs.map Ac.cs)),(10,.int .i64 zs.length),(11,.int .i64 i)]) (λi l=>[(bm,.map (bB jq l))]) [] (λp hp=>by cases hp) (Weak.rfl' _ _) (by omega) (λi a r l hok hx hw=>?_) (λl hok hn=>?_)
 ·have hne:=True.intro
  have hia:=hil a hx.mem
  have hQa:=hQ a hx.mem
  (repeat' (first|(with_reducible (first|refine ab (λh=>?_) (λh=>?_)|refine ai (λh=>?_) (λh=>?_)|refine ak (λh=>?_) (λh=>?_))<;>(try simp only[DZ]at h))|(with_reducible refine AI (by omega) ?_)|simp only[EVz,seval,↓reduceIte,EV6,EV7,hx.yes,hx.le0,hx.lt',hx.get,hx.row,hw,Ac.cs,hne]|simp only[EVz,seval,↓reduceIte,EV6,EV7,hx.yes,hx.le0,hx.lt',hx.get,hx.row,hw,Ac.cs]|(with_reducible intro blk hblk;(try(have hnx:=hblk;simp only[EVK]at hnx;first|(have hne:=AI hnx hne)|(have hne:=hnx))))|(with_reducible first|refine ae ?_ ?_|refine af ?_)|(exfalso;omega)))
  refine ax (ι:=List ((Int×Int)×AV)) a.items (λk r l=>MI Q l) (λk l=>[(3,.sc (.map (some bm))),(9,.lst 7 (zs.map Ac.cs)),(10,.int .i64 zs.length),(11,.int .i64 i),(16,.lst 25 (a.items.map Itm.cs)),(17,.int .i64 a.items.length),(18,.int .i64 k)]) (λk l=>[(bm,.map (bB jq l))]) l hok (Weak.sub (SubN.tail (SubN.refl _) _)) (by omega) (λk x r2 l hok hy hw2=>?_) (λl hok hn=>?_)
  ·have hne:=True.intro
   have hQx:=hQa x hy.mem
   by_cases hb0:x.by_=[]
   ·have hb1:(x.by_.map Itm.cs).length=0:=by rw[hb0];rfl
    (repeat' (first|(with_reducible (first|refine ab (λh=>?_) (λh=>?_)|refine ai (λh=>?_) (λh=>?_)|refine ak (λh=>?_) (λh=>?_))<;>(try simp only[DZ]at h))|(with_reducible refine AI (by omega) ?_)|simp only[EVz,seval,↓reduceIte,EV6,EV7,hy.yes,hy.le0,hy.lt',hy.get,hy.row,hw2,Itm.cs_eq,hb1,hne]|simp only[EVz,seval,↓reduceIte,EV6,EV7,hy.yes,hy.le0,hy.lt',hy.get,hy.row,hw2,Itm.cs_eq,hb1]|(with_reducible intro blk hblk;(try(have hnx:=hblk;simp only[EVK]at hnx;first|(have hne:=AI hnx hne)|(have hne:=hnx))))|(with_reducible first|refine ae ?_ ?_|refine af ?_)|(exfalso;omega)))
    all_goals exact am hy l hok (Weak.sub (SubN.tail (SubN.refl _) _))
   ·obtain⟨y,hym,hyg⟩:∃y,y∈x.by_/\(x.by_.map Itm.cs).getD 0 []=y.cs:=by
     cases hbe:x.by_ with
     |nil=>exact absurd hbe hb0
     |cons y l=>exact⟨y,by simp,rfl⟩
    have hlb:(0:Int)<(x.by_.length:Int):=by
     have:=length_pos_iff.2 hb0
     omega
    have hI:=f116 G y.kind
    have hyk:=Itm.cs_head
    (repeat' (first|(with_reducible (first|refine ab (λh=>?_) (λh=>?_)|refine ai (λh=>?_) (λh=>?_)|refine ak (λh=>?_) (λh=>?_))<;>(try simp only[DZ]at h))|(with_reducible first|refine AI (by omega) ?_|refine aa hI ?_)|simp only[EVz,seval,↓reduceIte,EV6,EV7,hy.yes,hy.le0,hy.lt',hy.get,hy.row,hw2,Itm.cs_eq x,hyg,hne]|simp only[EVz,seval,↓reduceIte,EV6,EV7,hy.yes,hy.le0,hy.lt',hy.get,hy.row,hw2,Itm.cs_eq x,hyg]|(with_reducible intro blk hblk;(try(have hnx:=hblk;simp only[EVK]at hnx;first|(have hne:=AI hnx hne)|(have hne:=hnx))))|(with_reducible first|refine ae ?_ ?_|refine af ?_)|(refine cr jy (l:=l) (k:=(x.act,x.item)) (yv:=.agg y.cs) rfl (mr _ _) rfl (eT:=61) (by kernel_rfl) (by first|exact aH|(simp[Store.get, *];done)) ?_)|(exfalso;omega)))
    all_goals first|exact am hy l hok (Weak.sub (SubN.tail (SubN.refl _) _))|exact am hy (bu (x.act,x.item) (.agg y.cs) l) (hok.put _ (hQx y hym)) (Weak.sub (SubN.tail (SubN.refl _) _))
  ·(repeat' (first|(with_reducible (first|refine ab (λh=>?_) (λh=>?_)|refine ai (λh=>?_) (λh=>?_)|refine ak (λh=>?_) (λh=>?_))<;>(try simp only[DZ]at h))|(with_reducible refine AI (by omega) ?_)|simp only[EVz,seval,↓reduceIte,EV6,EV7,hn,hw]|(with_reducible intro blk hblk;(try(have hnx:=hblk;simp only[EVK]at hnx;first|(have hne:=AI hnx hne)|(have hne:=hnx))))|(with_reducible first|refine ae ?_ ?_|refine af ?_)|(exfalso;omega)))
   exact am hx l hok (Weak.rfl' _ _)
 ·(repeat' (first|(with_reducible (first|refine ab (λh=>?_) (λh=>?_)|refine ai (λh=>?_) (λh=>?_)|refine ak (λh=>?_) (λh=>?_))<;>(try simp only[DZ]at h))|(with_reducible refine AI (by omega) ?_)|simp only[EVz,seval,↓reduceIte,EV6,EV7,hn]|(with_reducible intro blk hblk;(try(have hnx:=hblk;simp only[EVK]at hnx;first|(have hne:=AI hnx hne)|(have hne:=hnx))))|(with_reducible first|refine ae ?_ ?_|refine af ?_)|(exfalso;omega)))
  all_goals exact⟨_,_,AVle.rfl' _,SubN.refl _,bm,l,rfl,rfl,hok⟩
abbrev mA:Value:=.agg #[.int .i64 0,.slice none 0 0,.slice none 0 0,.int .i64 0,.int .i64 0,.int .i64 0,.int .i64 0,.int .i64 0,.int .i64 0,.string ⟨⟨[]⟩⟩,.slice none 0 0,.slice none 0 0,.slice none 0 0,.slice none 0 0,.slice none 0 0,.string ⟨⟨[]⟩⟩,.string ⟨⟨[]⟩⟩,.int .i64 0,.int .i64 0,.string ⟨⟨[]⟩⟩,.int .i64 0,.int .i64 0,.int .i64 0,.string ⟨⟨[]⟩⟩,.slice none 0 0]
theorem kW (τ:Store) (w:World):Rep τ w (.agg zItm) mA:=by
 rw[Rep]
 refine⟨_,rfl,by decide,?_⟩
 unfold zItm
 simp[RepL,Rep]
set_option maxRecDepth 8000 in
set_option maxHeartbeats 16000000 in
theorem f180 (Q:Itm->Prop) (gs:List Gz) (hgl:gs.length<=8) (hal:∀g∈gs,g.acts.length<=8) (hil:∀g∈gs,∀a∈g.acts,a.items.length<=24) (hQ1:∀g∈gs,∀a∈g.acts,∀x∈a.items,Q x) (hQ2:∀g∈gs,∀a∈g.acts,∀x∈a.items,∀y∈x.by_,Q y):
  aj G Tryz.prog 180 [.lst 4 (gs.map Gz.cs)] [] (λr σ'=>σ'=[]/\∃ds:List Dd,(ds.length<=1536/\∀d∈ds,Q d.it)/\r= .lst 28 (ds.map Dd.cs)):=by
 have hA:=f179 G gs hgl hal
 refine aj.w c180 ?_
 unfold s180 r180
 (repeat' (first|(with_reducible (first|refine ab (λh=>?_) (λh=>?_)|refine ai (λh=>?_) (λh=>?_)|refine ak (λh=>?_) (λh=>?_))<;>(try simp only[DZ]at h))|(with_reducible refine AI (by omega) ?_)|simp only[EVz,seval,↓reduceIte,EV6,EV7]|(with_reducible intro blk hblk;(try(have hnx:=hblk;simp only[EVK]at hnx;first|(have hne:=AI hnx hne)|(have hne:=hnx))))|(with_reducible first|refine ae ?_ ?_|refine af ?_)|(exfalso;omega)))
 refine bf hA ?_
 rintro _ ⟨zs,⟨hz1,hz2⟩,rfl⟩
 have hI1:∀a∈zs,a.items.length<=24:=λa ha=>by
  obtain⟨g,hg,hag⟩:=hz2 a ha
  exact hil g hg a hag
 have hI2:∀a∈zs,∀x∈a.items,Q x:=λa ha=>by
  obtain⟨g,hg,hag⟩:=hz2 a ha
  exact hQ1 g hg a hag
 have hC:=f220 G Q zs hz1 (λa ha=>by have:=hI1 a ha;omega) (λa ha=>by
  obtain⟨g,hg,hag⟩:=hz2 a ha
  exact hQ2 g hg a hag)
 clear hQ1 hQ2 hil hal hz2 hA
 (repeat' (first|(with_reducible (first|refine ab (λh=>?_) (λh=>?_)|refine ai (λh=>?_) (λh=>?_)|refine ak (λh=>?_) (λh=>?_))<;>(try simp only[DZ]at h))|(with_reducible refine AI (by omega) ?_)|simp only[EVz,seval,↓reduceIte,EV6,EV7]|(with_reducible intro blk hblk;(try(have hnx:=hblk;simp only[EVK]at hnx;first|(have hne:=AI hnx hne)|(have hne:=hnx))))|(with_reducible first|refine ae ?_ ?_|refine af ?_)|(exfalso;omega)))
 refine dE hC ?_
 rintro _ _ ⟨bm,l,rfl,rfl,hl⟩
 (repeat' (first|(with_reducible (first|refine ab (λh=>?_) (λh=>?_)|refine ai (λh=>?_) (λh=>?_)|refine ak (λh=>?_) (λh=>?_))<;>(try simp only[DZ]at h))|(with_reducible refine AI (by omega) ?_)|simp only[EVz,seval,↓reduceIte,EV6,EV7]|(with_reducible intro blk hblk;(try(have hnx:=hblk;simp only[EVK]at hnx;first|(have hne:=AI hnx hne)|(have hne:=hnx))))|(with_reducible first|refine ae ?_ ?_|refine af ?_)|(exfalso;omega)))
 refine ax (ι:=List Dd×Option Nat) zs (λi r c=>c.1.length<=24*i/\(∀d∈c.1,Q d.it)/\∀b,c.2=some b->b≠bm) (λi c=>[(3,.own c.2 159 28 (c.1.map Dd.cs)),(5,.sc (.map (some bm))),(16,.lst 7 (zs.map Ac.cs)),(17,.int .i64 zs.length),(18,.int .i64 i)]) (λi c=>(bm,.map (bB jq l))::tokS c.2 159 (c.1.length*28)) ([],none) ⟨Nat.zero_le _,(λd hd=>by cases hd),λb h=>by cases h⟩ (Weak.of (by simp[dI,Env.get,AVle,aU]) (SubN.refl _)) (by omega) (λi a r c hok hx hw=>?_) (λc hok hn=>?_)
 ·obtain⟨ds,c⟩:=c
  obtain⟨hc1,hc2,hc3⟩:=hok
  simp only at hc1 hc2 hc3 ⊢
  have hxl:=hx.lt
  have hE:=f221 G a (by have:=hI1 a hx.mem;omega)
  have hIa:=hI2 a hx.mem
  have hI1a:=hI1 a hx.mem
  simp only[Ac.cs]at hE
  have hne:=True.intro
  (repeat' (first|(with_reducible (first|refine ab (λh=>?_) (λh=>?_)|refine ai (λh=>?_) (λh=>?_)|refine ak (λh=>?_) (λh=>?_))<;>(try simp only[DZ]at h))|(with_reducible refine AI (by omega) ?_)|simp only[EVz,seval,↓reduceIte,EV6,EV7,hx.yes,hx.le0,hx.lt',hx.get,hx.row,hw,Ac.cs,hne]|simp only[EVz,seval,↓reduceIte,EV6,EV7,hx.yes,hx.le0,hx.lt',hx.get,hx.row,hw,Ac.cs]|(with_reducible intro blk hblk;(try(have hnx:=hblk;simp only[EVK]at hnx;first|(have hne:=AI hnx hne)|(have hne:=hnx))))|(with_reducible first|refine ae ?_ ?_|refine af ?_)|(exfalso;omega)))
  refine bf hE ?_
  rintro _ ⟨es,⟨he1,he2⟩,rfl⟩
  (repeat' (first|(with_reducible (first|refine ab (λh=>?_) (λh=>?_)|refine ai (λh=>?_) (λh=>?_)|refine ak (λh=>?_) (λh=>?_))<;>(try simp only[DZ]at h))|(with_reducible refine AI (by omega) ?_)|simp only[EVz,seval,↓reduceIte,EV6,EV7]|(with_reducible intro blk hblk;(try(have hnx:=hblk;simp only[EVK]at hnx;first|(have hne:=AI hnx hne)|(have hne:=hnx))))|(with_reducible first|refine ae ?_ ?_|refine af ?_)|(exfalso;omega)))
  refine ax (ι:=List Dd×Option Nat) es (λk r c=>c.1.length<=24*i+k/\(∀d∈c.1,Q d.it)/\∀b,c.2=some b->b≠bm) (λk c=>[(3,.own c.2 159 28 (c.1.map Dd.cs)),(5,.sc (.map (some bm))),(16,.lst 7 (zs.map Ac.cs)),(17,.int .i64 zs.length),(18,.int .i64 i),(23,.lst 28 (es.map Dd.cs)),(24,.int .i64 es.length),(25,.int .i64 k)]) (λk c=>(bm,.map (bB jq l))::tokS c.2 159 (c.1.length*28)) (ds,c) ⟨hc1,hc2,hc3⟩ (Weak.sub (SubN.tail (SubN.refl _) _)) (by omega) (λk d r2 c hok hy hw2=>?_) (λc hok hn=>?_)
  ·clear hc1 hc2 hc3 hE hblk hnx hne
   clear ds
   obtain⟨ds,c⟩:=c
   obtain⟨hc1,hc2,hc3⟩:=hok
   simp only at hc1 hc2 hc3 ⊢
   have hyl:=hy.lt
   have hne:=True.intro
   have hI:=f116 G d.it.kind
   rcases hl.get (d.act,d.item)with hm|⟨y,hyQ,hm⟩
   ·(repeat' (first|(with_reducible (first|refine ab (λh=>?_) (λh=>?_)|refine ai (λh=>?_) (λh=>?_)|refine ak (λh=>?_) (λh=>?_))<;>(try simp only[DZ]at h))|(with_reducible first|refine AI (by omega) ?_|refine aa hI ?_)|simp only[EVz,seval,↓reduceIte,EV6,EV7,hy.yes,hy.le0,hy.lt',hy.get,hy.row,hw2,Dd.cs_eq d,hm,Option.getD_none,Option.isSome_none,Option.getD_some,Option.isSome_some,hne]|simp only[EVz,seval,↓reduceIte,EV6,EV7,hy.yes,hy.le0,hy.lt',hy.get,hy.row,hw2,Dd.cs_eq d,hm,Option.getD_none,Option.isSome_none,Option.getD_some,Option.isSome_some]|(with_reducible intro blk hblk;(try(have hnx:=hblk;simp only[EVK]at hnx;first|(have hne:=AI hnx hne)|(have hne:=hnx))))|(with_reducible first|refine ae ?_ ?_|refine af ?_)|(refine aC jy (l:=l) (k:=(d.act,d.item)) (z:=mA) (zv:=.agg zItm) rfl (mr _ _) (eT:=61) (by kernel_rfl) (by first|exact aH|(simp[Store.get, *];done)) (by kernel_rfl) kW ?_)|(refine⟨[d.cs],rfl,(by simp[Dd.cs_len]),(by simp[Dd.cs_eq]),?_⟩)|(exfalso;omega)))
    rename_i b9 hb9 _ _ b10 hb10 _ _
    refine dY (sz:=28) (bytes:=392) (rows:=ds.map Dd.cs) (m:=ds.length*28) [(blk,_),(b10,_),(b9,_)] [(bm,_)] ?_ ?_ (by rw[length_map]) (by simp[Store.keys]) (by rw[length_map];simp;omega) (λgn hgn=>?_)
    ·intro p hp
     simp only[mem_cons,not_mem_nil,or_false]at hp
     rcases hp with rfl|rfl|rfl
     ·exact λh=>hblk (mem_cons_of_mem _ (mem_cons_of_mem _ h))
     ·exact λh=>hb10 (mem_cons_of_mem _ h)
     ·exact hb9
    ·intro b hb
     simpa[Store.keys]using hc3 b hb
    ·refine am hy (ds++[d],gn) ⟨by simp only[length_append,length_cons,length_nil];omega,?_,λb hb=>by simpa[Store.keys]using hgn b hb⟩ ?_
     ·intro q hq
      rcases mem_append.1 hq with hq|hq
      ·exact hc2 q hq
      ·simp only[mem_singleton]at hq
       rw[hq]
       exact hIa _ (he2 d hy.mem)
     ·simp only[map_append,map_cons,map_nil,length_append,length_map,length_cons,length_nil,Dd.cs_eq d]
      exact Weak.rfl' _ _
   ·cases hc:inR d.it.kind 0 6 with
    |false=>
     rw[hc]at hI
     (repeat' (first|(with_reducible (first|refine ab (λh=>?_) (λh=>?_)|refine ai (λh=>?_) (λh=>?_)|refine ak (λh=>?_) (λh=>?_))<;>(try simp only[DZ]at h))|(with_reducible first|refine AI (by omega) ?_|refine aa hI ?_)|simp only[EVz,seval,↓reduceIte,EV6,EV7,hy.yes,hy.le0,hy.lt',hy.get,hy.row,hw2,Dd.cs_eq d,hm,Option.getD_none,Option.isSome_none,Option.getD_some,Option.isSome_some,hne]|simp only[EVz,seval,↓reduceIte,EV6,EV7,hy.yes,hy.le0,hy.lt',hy.get,hy.row,hw2,Dd.cs_eq d,hm,Option.getD_none,Option.isSome_none,Option.getD_some,Option.isSome_some]|(with_reducible intro blk hblk;(try(have hnx:=hblk;simp only[EVK]at hnx;first|(have hne:=AI hnx hne)|(have hne:=hnx))))|(with_reducible first|refine ae ?_ ?_|refine af ?_)|(refine aC jy (l:=l) (k:=(d.act,d.item)) (z:=mA) (zv:=.agg zItm) rfl (mr _ _) (eT:=61) (by kernel_rfl) (by first|exact aH|(simp[Store.get, *];done)) (by kernel_rfl) kW ?_)|(refine⟨[d.cs],rfl,(by simp[Dd.cs_len]),(by simp[Dd.cs_eq]),?_⟩)|(exfalso;omega)))
     rename_i b9 hb9 _ _ b10 hb10 _ _
     refine dY (sz:=28) (bytes:=392) (rows:=ds.map Dd.cs) (m:=ds.length*28) [(blk,_),(b10,_),(b9,_)] [(bm,_)] ?_ ?_ (by rw[length_map]) (by simp[Store.keys]) (by rw[length_map];simp;omega) (λgn hgn=>?_)
     ·intro p hp
      simp only[mem_cons,not_mem_nil,or_false]at hp
      rcases hp with rfl|rfl|rfl
      ·exact λh=>hblk (mem_cons_of_mem _ (mem_cons_of_mem _ h))
      ·exact λh=>hb10 (mem_cons_of_mem _ h)
      ·exact hb9
     ·intro b hb
      simpa[Store.keys]using hc3 b hb
     ·refine am hy (ds++[d],gn) ⟨by simp only[length_append,length_cons,length_nil];omega,?_,λb hb=>by simpa[Store.keys]using hgn b hb⟩ ?_
      ·intro q hq
       rcases mem_append.1 hq with hq|hq
       ·exact hc2 q hq
       ·simp only[mem_singleton]at hq
        rw[hq]
        exact hIa _ (he2 d hy.mem)
      ·simp only[map_append,map_cons,map_nil,length_append,length_map,length_cons,length_nil,Dd.cs_eq d]
       exact Weak.rfl' _ _
    |true=>
     rw[hc]at hI
     (repeat' (first|(with_reducible (first|refine ab (λh=>?_) (λh=>?_)|refine ai (λh=>?_) (λh=>?_)|refine ak (λh=>?_) (λh=>?_))<;>(try simp only[DZ]at h))|(with_reducible first|refine AI (by omega) ?_|refine aa hI ?_)|simp only[EVz,seval,↓reduceIte,EV6,EV7,hy.yes,hy.le0,hy.lt',hy.get,hy.row,hw2,Dd.cs_eq d,hm,Option.getD_none,Option.isSome_none,Option.getD_some,Option.isSome_some,hne]|simp only[EVz,seval,↓reduceIte,EV6,EV7,hy.yes,hy.le0,hy.lt',hy.get,hy.row,hw2,Dd.cs_eq d,hm,Option.getD_none,Option.isSome_none,Option.getD_some,Option.isSome_some]|(with_reducible intro blk hblk;(try(have hnx:=hblk;simp only[EVK]at hnx;first|(have hne:=AI hnx hne)|(have hne:=hnx))))|(with_reducible first|refine ae ?_ ?_|refine af ?_)|(refine aC jy (l:=l) (k:=(d.act,d.item)) (z:=mA) (zv:=.agg zItm) rfl (mr _ _) (eT:=61) (by kernel_rfl) (by first|exact aH|(simp[Store.get, *];done)) (by kernel_rfl) kW ?_)|(refine⟨[Dd.cs ⟨d.act,d.item,d.day,y⟩],rfl,(by simp[Dd.cs_len]),(by simp[Dd.cs_eq,Dd.cs]),?_⟩)|(exfalso;omega)))
     rename_i b9 hb9 _ _ b10 hb10 _ _
     refine dY (sz:=28) (bytes:=392) (rows:=ds.map Dd.cs) (m:=ds.length*28) [(blk,_),(b10,_),(b9,_)] [(bm,_)] ?_ ?_ (by rw[length_map]) (by simp[Store.keys]) (by rw[length_map];simp;omega) (λgn hgn=>?_)
     ·intro p hp
      simp only[mem_cons,not_mem_nil,or_false]at hp
      rcases hp with rfl|rfl|rfl
      ·exact λh=>hblk (mem_cons_of_mem _ (mem_cons_of_mem _ h))
      ·exact λh=>hb10 (mem_cons_of_mem _ h)
      ·exact hb9
     ·intro b hb
      simpa[Store.keys]using hc3 b hb
     ·refine am hy (ds++[⟨d.act,d.item,d.day,y⟩],gn) ⟨by simp only[length_append,length_cons,length_nil];omega,?_,λb hb=>by simpa[Store.keys]using hgn b hb⟩ ?_
      ·intro q hq
       rcases mem_append.1 hq with hq|hq
       ·exact hc2 q hq
       ·simp only[mem_singleton]at hq
        rw[hq]
        exact hyQ
      ·simp only[map_append,map_cons,map_nil,length_append,length_map,length_cons,length_nil,Dd.cs_eq d]
       exact Weak.rfl' _ _
  ·clear hc1 hc2 hc3 hE hblk hnx hne
   clear ds
   obtain⟨ds,c⟩:=c
   obtain⟨hc1,hc2,hc3⟩:=hok
   simp only at hc1 hc2 hc3 ⊢
   (repeat' (first|(with_reducible (first|refine ab (λh=>?_) (λh=>?_)|refine ai (λh=>?_) (λh=>?_)|refine ak (λh=>?_) (λh=>?_))<;>(try simp only[DZ]at h))|(with_reducible refine AI (by omega) ?_)|simp only[EVz,seval,↓reduceIte,EV6,EV7,hn,hw]|(with_reducible intro blk hblk;(try(have hnx:=hblk;simp only[EVK]at hnx;first|(have hne:=AI hnx hne)|(have hne:=hnx))))|(with_reducible first|refine ae ?_ ?_|refine af ?_)|(exfalso;omega)))
   exact am hx (ds,c) ⟨by simp only;omega,hc2,hc3⟩ (Weak.rfl' _ _)
 ·obtain⟨ds,c⟩:=c
  obtain⟨hc1,hc2,hc3⟩:=hok
  simp only at hc1 hc2 hc3 ⊢
  (repeat' (first|(with_reducible (first|refine ab (λh=>?_) (λh=>?_)|refine ai (λh=>?_) (λh=>?_)|refine ak (λh=>?_) (λh=>?_))<;>(try simp only[DZ]at h))|(with_reducible refine AI (by omega) ?_)|simp only[EVz,seval,↓reduceIte,EV6,EV7,hn]|(with_reducible intro blk hblk;(try(have hnx:=hblk;simp only[EVK]at hnx;first|(have hne:=AI hnx hne)|(have hne:=hnx))))|(with_reducible first|refine ae ?_ ?_|refine af ?_)|(exfalso;omega)))
  all_goals exact⟨.lst 28 (ds.map Dd.cs),[],.inl (.inr ⟨rfl,rfl⟩),SubN.nil _,rfl,ds,⟨by omega,hc2⟩,rfl⟩
end
end Go.Av
