/-
  TOP, 19: the amendments in force on a day.
-/
import Derived.Test.YtjdccoplpljmlaaGreatDoorVXY18
import Derived.Test.YtjdccoplpljmlaaGreatDoorVXC4
import Derived.Test.YtjdccoplpljmlaaGreatDoorVXC5
import Derived.Test.YtjdccoplpljmlaaGreatDoorVXC6toXE3
import Derived.Test.YtjdccoplpljmlaaGreatDoorVXOpTtoXY14
import Derived.Test.YtjdccoplpljmlaaGreatDoorVXL35toXM9
import Derived.Test.YtjdccoplpljmlaaGreatDoorVXAv29toXAv33
import Derived.Test.YtjdccoplpljmlaaGreatDoorVXM31toXM33
import Derived.Test.YtjdccoplpljmlaaGreatDoorVXY17toXY20
namespace Go.Av
open Go Go.RowKit Go.Proofs List
set_option linter.unusedSimpArgs false
set_option linter.unusedVariables false
def Spans (ps:List (Int×Int)):Prop:=ps.length<10000/\∃D:List Int,(0:Int)∈D/\(1048577:Int)∈D/\Ends D ps
def Takes (G:Glob) (f:Value) (Q:Itm->Prop) (St:List Dd->Store->Prop):Prop:=
 ∀(d:Dd) (ps:List (Int×Int)) (ds:List Dd) (σ:Store),Q d.it->Spans ps->ds.length<=1536->St ds σ->
  cn G Tryz.prog f [.agg d.cs,.lst 2 (ps.map spc)] σ (λr σ'=>r= .tup []/\∃E,(E=ds\/E=ds++[d])/\St E σ')
def zSta:Sta:=⟨0,0,[]⟩
def MS (zs:List Ac) (l:List (Int×AV)):Prop:=∀p∈l,∃a∈zs,p.2= .agg a.start.cs
theorem MS.get {zs:List Ac} {l:List (Int×AV)} (h:MS zs l) (k:Int):∃s:Sta,(s=zSta\/∃a∈zs,s=a.start)/\(aN k l).getD (.agg zSta.cs)= .agg s.cs:=by
 induction l with
 |nil=>exact⟨zSta,.inl rfl,rfl⟩
 |cons p l ih=>
  simp only[aN]
  split
  ·obtain⟨a,E,F⟩:=h p (by simp)
   exact⟨a.start,.inr ⟨a,E,rfl⟩,by rw[F];rfl⟩
  ·exact ih λq I=>h q (by simp[I])
theorem MS.put {zs:List Ac} {l:List (Int×AV)} (h:MS zs l) (k:Int) {a:Ac} (F:a∈zs):MS zs (bu k (.agg a.start.cs) l):=by
 induction l with
 |nil=>intro p E;simp only[bu,mem_singleton]at E;subst E;exact⟨a,F,rfl⟩
 |cons q l ih=>
  simp only[bu]
  split
  ·intro p E
   rcases mem_cons.1 E with rfl|E
   ·exact⟨a,F,rfl⟩
   ·exact h p (by simp[E])
  ·intro p E
   rcases mem_cons.1 E with rfl|E
   ·exact h p (by simp)
   ·exact ih (λq I=>h q (by simp[I])) p E
theorem rep_zSta (τ:Store) (w:World):Rep τ w (.agg zSta.cs) (.agg #[.int .i64 0,.int .i64 0,.string ⟨⟨[]⟩⟩]):=by
 rw[Rep]
 refine⟨_,rfl,by decide,?_⟩
 unfold Sta.cs zSta
 simp[RepL,Rep]
def OnSt (I J F:Nat) (p:List UInt8) (day:Int) (E:List Dd) (σ:Store):Prop:=
 ∃xv τ,σ=(I,.cells 49 [xv])::(J,.cells 9 [.str p])::(F,.cells 3 [.int .i64 day])::τ/\((xv= .nil/\τ=[]/\E=[])\/∃c,xv= .own c 159 28 (E.map Dd.cs)/\τ=tokS c 159 (E.length*28))
abbrev onF (F I E:Nat):Value:=.func (.func 122) #[] #[.pointer (some ⟨I,0,none⟩),.pointer (some ⟨E,0,none⟩),.pointer (some ⟨F,0,none⟩)]
theorem subBack2 {y z:Nat×AObj} {κ:Store}:SubN (z::κ) (κ++[y,z]):=
 SubN.trans (SubN.perm (perm_append_singleton z κ).symm) (SubN.app (a:=κ) (SubN.tail (SubN.refl [z]) y))
theorem nextD {Q:Itm->Prop} {St:List Dd->Store->Prop} {i:Nat} {d:Dd} {I E:List Dd} {σ':Store} (O:I.length<=i) (J:∀d∈I,Q d.it) (N:Q d.it) (h:E=I\/E=I++[d]) (M:St E σ'):E.length<=i+1/\(∀d∈E,Q d.it)/\St E σ':=by
 refine⟨?_,λq F=>?_,M⟩
 ·rcases h with rfl|rfl
  ·omega
  ·simp;omega
 ·rcases h with rfl|rfl
  ·exact J q F
  ·rcases mem_append.1 F with F|F
   ·exact J q F
   ·simp only[mem_singleton]at F
    rw[F]
    exact N
section
variable (G:Glob)
set_option maxRecDepth 8000 in
set_option maxHeartbeats 8000000 in
theorem f122 (hS:eK G) (bo bp bd:Nat) (p:List UInt8) (day:Int) (d:Dd) (ps:List (Int×Int)) (ds:List Dd) (σ:Store) (hps:Spans ps) (hl:ds.length<=1536) (hσ:OnSt bo bp bd p day ds σ):
  aj G Tryz.prog 122 [.agg d.cs,.lst 2 (ps.map spc),.sc (.pointer (some ⟨bp,0,none⟩)),.sc (.pointer (some ⟨bd,0,none⟩)),.sc (.pointer (some ⟨bo,0,none⟩))] σ (λr σ'=>r= .tup []/\∃ds',(ds'=ds\/ds'=ds++[d])/\OnSt bo bp bd p day ds' σ'):=by
 obtain⟨hpl,D,h0,hF,hE⟩:=hps
 have hC:=f123 G hS D h0 hF ps (by omega) hE day
 refine aj.wn c122 (λhnd=>?_)
 unfold s122 r122
 have hne0:=hσ
 obtain⟨xv,τ,rfl,hx⟩:=hσ
 simp only[Store.keys,map_cons,nodup_cons,mem_cons,not_or]at hnd
 obtain⟨⟨n1,n2,n3⟩,⟨n4,n5⟩,n6,n7⟩:=hnd
 have n1':¬bp=bo:=λe=>n1 e.symm
 have n2':¬bd=bo:=λe=>n2 e.symm
 have n4':¬bd=bp:=λe=>n4 e.symm
 have hne:=AI n1 (AI n2 (AI n4 (AI n1' (AI n2' n4'))))
 have keep:RET (.tup []) ((bo,AObj.cells 49 [xv])::(bp,.cells 9 [.str p])::(bd,.cells 3 [.int .i64 day])::τ) (λr σ'=>r= .tup []/\∃ds',(ds'=ds\/ds'=ds++[d])/\OnSt bo bp bd p day ds' σ'):=retI ⟨rfl,ds,.inl rfl,xv,τ,rfl,hx⟩
 rcases hx with⟨rfl,rfl,rfl⟩|⟨c,rfl,rfl⟩
 ·(repeat' (first|(with_reducible (first|refine ab (λh=>?_) (λh=>?_)|refine ai (λh=>?_) (λh=>?_)|refine ak (λh=>?_) (λh=>?_))<;>(try simp only[DZ]at h))|(with_reducible refine AI (by omega) ?_)|simp only[EVz,seval,↓reduceIte,EV6,EV7,Dd.cs_eq d,n1,n2,n4,n1',n2',n4',hne]|simp only[EVz,seval,↓reduceIte,EV6,EV7,Dd.cs_eq d,n1,n2,n4,n1',n2',n4']|(with_reducible intro blk hblk;(try(have hnx:=hblk;simp only[EVK]at hnx;first|(have hne:=AI hnx hne)|(have hne:=hnx))))|(with_reducible first|refine ae ?_ ?_|refine af ?_)|(refine bf hC ?_;(rintro _ ⟨bb,rfl⟩))|(refine⟨[d.cs],rfl,(by simp[Dd.cs_len]),(by simp[Dd.cs_eq]),?_⟩)|(exfalso;omega)))
  all_goals first
   |exact keep
   |(refine dY (g:=none) (sz:=28) (bytes:=392) (rows:=[]) (m:=0) [(blk,_)] [(bo,_),(bp,_),(bd,_)] ?_ ?_ rfl ?_ ?_ (λgn hgn=>?_)
     ·intro q hq
      simp only[mem_singleton]at hq
      subst hq
      exact hblk
     ·intro b hb;cases hb
     ·simp[Store.keys,n1,n2,n4]
     ·simp
     ·(repeat' (first|(with_reducible (first|refine ab (λh=>?_) (λh=>?_)|refine ai (λh=>?_) (λh=>?_)|refine ak (λh=>?_) (λh=>?_))<;>(try simp only[DZ]at h))|(with_reducible refine AI (by omega) ?_)|simp only[EVz,seval,↓reduceIte,EV6,EV7,n1,n2,n4,n1',n2',n4']|(with_reducible intro blk hblk;(try(have hnx:=hblk;simp only[EVK]at hnx;first|(have hne:=AI hnx hne)|(have hne:=hnx))))|(with_reducible first|refine ae ?_ ?_|refine af ?_)|(exfalso;omega)))
      refine⟨.tup [],_,AVle.rfl' _,SubN.refl _,rfl,[d],.inr rfl,_,_,rfl,.inr ⟨gn,?_,?_⟩⟩<;>simp[Dd.cs_eq])
 ·(repeat' (first|(with_reducible (first|refine ab (λh=>?_) (λh=>?_)|refine ai (λh=>?_) (λh=>?_)|refine ak (λh=>?_) (λh=>?_))<;>(try simp only[DZ]at h))|(with_reducible refine AI (by omega) ?_)|simp only[EVz,seval,↓reduceIte,EV6,EV7,Dd.cs_eq d,n1,n2,n4,n1',n2',n4',hne]|simp only[EVz,seval,↓reduceIte,EV6,EV7,Dd.cs_eq d,n1,n2,n4,n1',n2',n4']|(with_reducible intro blk hblk;(try(have hnx:=hblk;simp only[EVK]at hnx;first|(have hne:=AI hnx hne)|(have hne:=hnx))))|(with_reducible first|refine ae ?_ ?_|refine af ?_)|(refine bf hC ?_;(rintro _ ⟨bb,rfl⟩))|(refine⟨[d.cs],rfl,(by simp[Dd.cs_len]),(by simp[Dd.cs_eq]),?_⟩)|(exfalso;omega)))
  all_goals first
   |exact keep
   |(refine dY (g:=c) (sz:=28) (bytes:=392) (rows:=ds.map Dd.cs) (m:=ds.length*28) [(blk,_)] [(bo,_),(bp,_),(bd,_)] ?_ ?_ (by simp) ?_ ?_ (λgn hgn=>?_)
     ·intro q hq
      simp only[mem_singleton]at hq
      subst hq
      exact hblk
     ·intro b hb;subst hb;simp[Store.keys,tokS]at n3 n5 n6 ⊢;exact⟨λe=>n3 e.symm,λe=>n5 e.symm,λe=>n6 e.symm⟩
     ·simp[Store.keys,n1,n2,n4]
     ·rw[length_map];simp;omega
     ·(repeat' (first|(with_reducible (first|refine ab (λh=>?_) (λh=>?_)|refine ai (λh=>?_) (λh=>?_)|refine ak (λh=>?_) (λh=>?_))<;>(try simp only[DZ]at h))|(with_reducible refine AI (by omega) ?_)|simp only[EVz,seval,↓reduceIte,EV6,EV7,n1,n2,n4,n1',n2',n4']|(with_reducible intro blk hblk;(try(have hnx:=hblk;simp only[EVK]at hnx;first|(have hne:=AI hnx hne)|(have hne:=hnx))))|(with_reducible first|refine ae ?_ ?_|refine af ?_)|(exfalso;omega)))
      refine⟨.tup [],_,AVle.rfl' _,SubN.refl _,rfl,ds++[d],.inr rfl,_,_,rfl,.inr ⟨gn,?_,?_⟩⟩<;>simp[Dd.cs_eq])
theorem onTakes (O:eK G) (Q:Itm->Prop) (F I E:Nat) (p:List UInt8) (day:Int):Takes G (onF F I E) Q (OnSt F I E p day):=
 λd ps N σ _ J T M=>⟨_,_,_,rfl,f122 G O F I E p day d ps N σ J T M⟩
set_option maxRecDepth 8000 in
set_option maxHeartbeats 32000000 in
theorem f121 (hBoth:∀D:List Int,(0:Int)∈D->(1048577:Int)∈D->D.length<10000->fL G D) (Q:Itm->Prop) (gs:List Gz) (hgl:gs.length<=8) (hal:∀g∈gs,g.acts.length<=8) (hil:∀g∈gs,∀a∈g.acts,a.items.length<=24) (hQ1:∀g∈gs,∀a∈g.acts,∀x∈a.items,Q x) (hQ2:∀g∈gs,∀a∈g.acts,∀x∈a.items,∀y∈x.by_,Q y)
  (f:Value) (St:List Dd->Store->Prop) (hT:Takes G f Q St) (σ:Store) (hσ:St [] σ):
  aj G Tryz.prog 121 [.lst 4 (gs.map Gz.cs),.sc f] σ (λr σ'=>r= .tup []/\∃ds:List Dd,ds.length<=1536/\(∀d∈ds,Q d.it)/\St ds σ'):=by
 have hA:=f179 G gs hgl hal
 have hE:=f180 G Q gs hgl hal hil hQ1 hQ2
 refine aj.wn c121 (λhnd=>?_)
 unfold s121 r121
 (try simp only[EVz,seval,↓reduceIte,EV6,EV7])
 refine cc ?_
 intro bm hbm
 (repeat' (first|(with_reducible (first|refine ab (λh=>?_) (λh=>?_)|refine ai (λh=>?_) (λh=>?_)|refine ak (λh=>?_) (λh=>?_))<;>(try simp only[DZ]at h))|(with_reducible refine AI (by omega) ?_)|simp only[EVz,seval,↓reduceIte,EV6,EV7]|(with_reducible intro blk hblk;(try(have hnx:=hblk;simp only[EVK]at hnx;first|(have hne:=AI hnx hne)|(have hne:=hnx))))|(with_reducible first|refine ae ?_ ?_|refine af ?_)|(exfalso;omega)))
 refine bf hA ?_
 rintro _ ⟨zs,⟨hz1,hz2⟩,rfl⟩
 (repeat' (first|(with_reducible (first|refine ab (λh=>?_) (λh=>?_)|refine ai (λh=>?_) (λh=>?_)|refine ak (λh=>?_) (λh=>?_))<;>(try simp only[DZ]at h))|(with_reducible refine AI (by omega) ?_)|simp only[EVz,seval,↓reduceIte,EV6,EV7]|(with_reducible intro blk hblk;(try(have hnx:=hblk;simp only[EVK]at hnx;first|(have hne:=AI hnx hne)|(have hne:=hnx))))|(with_reducible first|refine ae ?_ ?_|refine af ?_)|(exfalso;omega)))
 refine ax (ι:=List (Int×AV)) zs (λi r l=>MS zs l) (λi l=>[(0,.lst 4 (gs.map Gz.cs)),(1,.sc f),(4,.sc (.map (some bm))),(12,.lst 7 (zs.map Ac.cs)),(13,.int .i64 zs.length),(14,.int .i64 i)]) (λi l=>(bm,.map (bB keyI l))::σ) [] (λp hp=>by cases hp) (Weak.rfl' _ _) (by omega) (λi a r l hok hx hw=>?_) (λl hok hn=>?_)
 ·have hne:=True.intro
  (repeat' (first|(with_reducible (first|refine ab (λh=>?_) (λh=>?_)|refine ai (λh=>?_) (λh=>?_)|refine ak (λh=>?_) (λh=>?_))<;>(try simp only[DZ]at h))|(with_reducible refine AI (by omega) ?_)|simp only[EVz,seval,↓reduceIte,EV6,EV7,hx.yes,hx.le0,hx.lt',hx.get,hx.row,hw,Ac.cs,hne]|simp only[EVz,seval,↓reduceIte,EV6,EV7,hx.yes,hx.le0,hx.lt',hx.get,hx.row,hw,Ac.cs]|(with_reducible intro blk hblk;(try(have hnx:=hblk;simp only[EVK]at hnx;first|(have hne:=AI hnx hne)|(have hne:=hnx))))|(with_reducible first|refine ae ?_ ?_|refine af ?_)|(refine cr eJ (l:=l) (k:=a.number) (yv:=.agg a.start.cs) rfl (λ_ _ _ h=>jj h) rfl (eT:=59) (by kernel_rfl) (by first|exact aH|(simp[Store.get, *];done)) ?_)|(exfalso;omega)))
  all_goals exact am hx (bu a.number (.agg a.start.cs) l) (hok.put _ hx.mem) (Weak.sub (SubN.tail (SubN.refl _) _))
 ·(repeat' (first|(with_reducible (first|refine ab (λh=>?_) (λh=>?_)|refine ai (λh=>?_) (λh=>?_)|refine ak (λh=>?_) (λh=>?_))<;>(try simp only[DZ]at h))|(with_reducible refine AI (by omega) ?_)|simp only[EVz,seval,↓reduceIte,EV6,EV7,hn]|(with_reducible intro blk hblk;(try(have hnx:=hblk;simp only[EVK]at hnx;first|(have hne:=AI hnx hne)|(have hne:=hnx))))|(with_reducible first|refine ae ?_ ?_|refine af ?_)|(exfalso;omega)))
  refine bf hE ?_
  rintro _ ⟨es,⟨he1,he2⟩,rfl⟩
  obtain⟨D,hD⟩:∃D:List Int,(0:Int)::1048577::(es.map (λd=>d.it.day)++(es.map (λd=>d.it.start.day)++zs.map (λa=>a.start.day)))=D:=⟨_,rfl⟩
  have h0:(0:Int)∈D:=by rw[←hD];simp
  have hF:(1048577:Int)∈D:=by rw[←hD];simp
  have hDl:D.length<10000:=by rw[←hD];simp;omega
  have hd1:DayIn D es:=λd hd=>by
   rw[←hD]
   exact mem_cons_of_mem _ (mem_cons_of_mem _ (mem_append.2 (.inl (mem_map.2 ⟨d,hd,rfl⟩))))
  have hd2:∀d∈es,d.it.start.day∈D:=λd hd=>by
   rw[←hD]
   exact mem_cons_of_mem _ (mem_cons_of_mem _ (mem_append.2 (.inr (mem_append.2 (.inl (mem_map.2 ⟨d,hd,rfl⟩))))))
  have hd3:∀a∈zs,a.start.day∈D:=λa ha=>by
   rw[←hD]
   exact mem_cons_of_mem _ (mem_cons_of_mem _ (mem_append.2 (.inr (mem_append.2 (.inr (mem_map.2 ⟨a,ha,rfl⟩))))))
  have hB:=hBoth D h0 hF hDl
  clear hA hE hQ1 hQ2 hil hal hz2 hD
  (repeat' (first|(with_reducible (first|refine ab (λh=>?_) (λh=>?_)|refine ai (λh=>?_) (λh=>?_)|refine ak (λh=>?_) (λh=>?_))<;>(try simp only[DZ]at h))|(with_reducible refine AI (by omega) ?_)|simp only[EVz,seval,↓reduceIte,EV6,EV7]|(with_reducible intro blk hblk;(try(have hnx:=hblk;simp only[EVK]at hnx;first|(have hne:=AI hnx hne)|(have hne:=hnx))))|(with_reducible first|refine ae ?_ ?_|refine af ?_)|(exfalso;omega)))
  refine ax (ι:=List Dd×Store) es (λi r c=>c.1.length<=i/\(∀d∈c.1,Q d.it)/\St c.1 c.2) (λi c=>[(1,.sc f),(4,.sc (.map (some bm))),(7,.lst 28 (es.map Dd.cs)),(26,.lst 28 (es.map Dd.cs)),(27,.int .i64 es.length),(28,.int .i64 i)]) (λi c=>(bm,.map (bB keyI l))::c.2) ([],σ) ⟨Nat.zero_le _,(λd hd=>by cases hd),hσ⟩ (Weak.rfl' _ _) (by omega) (λi d r c hok2 hy hw2=>?_) (λc hok2 hn=>?_)
  ·obtain⟨ds,σ1⟩:=c
   obtain⟨hc1,hc2,hc3⟩:=hok2
   simp only at hc1 hc2 hc3 ⊢
   have hyl:=hy.lt
   have hne:=True.intro
   obtain⟨s,hs,hsg⟩:=hok.get d.act
   have hsD:s.day∈D:=by
    rcases hs with rfl|⟨a,ha,rfl⟩
    ·exact h0
    ·exact hd3 a ha
   have hIF:=f181 G D hB h0 hF hDl s hsD d (hd2 d hy.mem) es (by omega) hd1
   have hdo:∀ps,Ends D ps->ps.length<=D.length->cn G Tryz.prog f [.agg d.cs,.lst 2 (ps.map spc)] σ1 (λr σ'=>r= .tup []/\∃ds',(ds'=ds\/ds'=ds++[d])/\St ds' σ'):=λps h1 h2=>hT d ps ds σ1 (he2 d hy.mem) ⟨by omega,D,h0,hF,h1⟩ (by omega) hc3
   simp only[Dd.cs_eq d]at hIF hdo
   cases hc:inR d.it.kind 0 6 with
   |false=>
    have hI:=f116 G d.it.kind
    rw[hc]at hI
    (repeat' (first|(with_reducible (first|refine ab (λh=>?_) (λh=>?_)|refine ai (λh=>?_) (λh=>?_)|refine ak (λh=>?_) (λh=>?_))<;>(try simp only[DZ]at h))|(with_reducible first|refine AI (by omega) ?_|refine aa hI ?_)|simp only[EVz,seval,↓reduceIte,EV6,EV7,hy.yes,hy.le0,hy.lt',hy.get,hy.row,hw2,Dd.cs_eq d,hne]|simp only[EVz,seval,↓reduceIte,EV6,EV7,hy.yes,hy.le0,hy.lt',hy.get,hy.row,hw2,Dd.cs_eq d]|(with_reducible intro blk hblk;(try(have hnx:=hblk;simp only[EVK]at hnx;first|(have hne:=AI hnx hne)|(have hne:=hnx))))|(with_reducible first|refine ae ?_ ?_|refine af ?_)|(exfalso;omega)))
    all_goals exact am hy (ds,σ1) ⟨Nat.le_succ_of_le hc1,hc2,hc3⟩ (Weak.sub (SubN.tail (SubN.refl _) _))
   |true=>
    have hI:=f116 G d.it.kind
    rw[hc]at hI
    (repeat' (first|(with_reducible (first|refine ab (λh=>?_) (λh=>?_)|refine ai (λh=>?_) (λh=>?_)|refine ak (λh=>?_) (λh=>?_))<;>(try simp only[DZ]at h))|(with_reducible first|refine AI (by omega) ?_|refine aa hI ?_)|simp only[EVz,seval,↓reduceIte,EV6,EV7,hy.yes,hy.le0,hy.lt',hy.get,hy.row,hw2,Dd.cs_eq d,hsg,hne]|simp only[EVz,seval,↓reduceIte,EV6,EV7,hy.yes,hy.le0,hy.lt',hy.get,hy.row,hw2,Dd.cs_eq d,hsg]|(with_reducible intro blk hblk;(try(have hnx:=hblk;simp only[EVK]at hnx;first|(have hne:=AI hnx hne)|(have hne:=hnx))))|(with_reducible first|refine ae ?_ ?_|refine af ?_)|(refine aC eJ (l:=l) (k:=d.act) (z:=.agg #[.int .i64 0,.int .i64 0,.string ⟨⟨[]⟩⟩]) (zv:=.agg zSta.cs) rfl (λ_ _ _ h=>jj h) (eT:=59) (by kernel_rfl) (by first|exact aH|(simp[Store.get, *];done)) (by kernel_rfl) rep_zSta ?_)|(refine bf hIF ?_;(rintro _ ⟨ps,⟨hp1,hp2⟩,rfl⟩))|(refine ay σ1 [(_,_),(bm,_)] (hdo ps hp1 hp2) (aA.rfl' _) (SubN.perm perm_append_comm) (λr σ' hr hnd2=>?_);obtain⟨rfl,ds',hds,hSt⟩:=hr)|(exfalso;omega)))
    all_goals exact am hy (ds',σ') (nextD hc1 hc2 (he2 d hy.mem) hds hSt) (Weak.sub subBack2)
  ·obtain⟨ds,σ1⟩:=c
   obtain⟨hc1,hc2,hc3⟩:=hok2
   simp only at hc1 hc2 hc3 ⊢
   (repeat' (first|(with_reducible (first|refine ab (λh=>?_) (λh=>?_)|refine ai (λh=>?_) (λh=>?_)|refine ak (λh=>?_) (λh=>?_))<;>(try simp only[DZ]at h))|(with_reducible refine AI (by omega) ?_)|simp only[EVz,seval,↓reduceIte,EV6,EV7,hn]|(with_reducible intro blk hblk;(try(have hnx:=hblk;simp only[EVK]at hnx;first|(have hne:=AI hnx hne)|(have hne:=hnx))))|(with_reducible first|refine ae ?_ ?_|refine af ?_)|(exfalso;omega)))
   exact⟨.tup [],_,AVle.rfl' _,SubN.tail (SubN.refl _) _,rfl,ds,by omega,hc2,hc3⟩
set_option maxRecDepth 8000 in
set_option maxHeartbeats 8000000 in
theorem f69 (hS:eK G) (hBoth:∀D:List Int,(0:Int)∈D->(1048577:Int)∈D->D.length<10000->fL G D) (Q:Itm->Prop) (gs:List Gz) (hgl:gs.length<=8) (hal:∀g∈gs,g.acts.length<=8) (hil:∀g∈gs,∀a∈g.acts,a.items.length<=24) (hQ1:∀g∈gs,∀a∈g.acts,∀x∈a.items,Q x) (hQ2:∀g∈gs,∀a∈g.acts,∀x∈a.items,∀y∈x.by_,Q y)
  (day:Int) (p:List UInt8):
  aj G Tryz.prog 69 [.int .i64 day,.str p,.lst 4 (gs.map Gz.cs)] [] (λr σ'=>σ'=[]/\∃ds:List Dd,(ds.length<=1536/\∀d∈ds,Q d.it)/\r= .lst 28 (ds.map Dd.cs)):=by
 refine aj.w c69 ?_
 unfold s69 r69
 (repeat' (first|(with_reducible (first|refine ab (λh=>?_) (λh=>?_)|refine ai (λh=>?_) (λh=>?_)|refine ak (λh=>?_) (λh=>?_))<;>(try simp only[DZ]at h))|(with_reducible refine AI (by omega) ?_)|simp only[EVz,seval,↓reduceIte,EV6,EV7]|(with_reducible intro blk hblk;(try(have hnx:=hblk;simp only[EVK]at hnx;first|(have hne:=AI hnx hne)|(have hne:=hnx))))|(with_reducible first|refine ae ?_ ?_|refine af ?_)|(exfalso;omega)))
 rename_i bd hbd _ _ bp hbp _ _
 refine dE (f121 G hBoth Q gs hgl hal hil hQ1 hQ2 _ (OnSt blk bp bd p day) (onTakes G hS Q blk bp bd p day) _ ⟨.nil,[],rfl,.inl ⟨rfl,rfl,rfl⟩⟩) ?_
 rintro _ _ ⟨rfl,ds,h1,h2,xv,τ,rfl,hx⟩
 rcases hx with⟨rfl,rfl,rfl⟩|⟨c,rfl,rfl⟩
 ·(repeat' (first|(with_reducible (first|refine ab (λh=>?_) (λh=>?_)|refine ai (λh=>?_) (λh=>?_)|refine ak (λh=>?_) (λh=>?_))<;>(try simp only[DZ]at h))|(with_reducible refine AI (by omega) ?_)|simp only[EVz,seval,↓reduceIte,EV6,EV7]|(with_reducible intro blk hblk;(try(have hnx:=hblk;simp only[EVK]at hnx;first|(have hne:=AI hnx hne)|(have hne:=hnx))))|(with_reducible first|refine ae ?_ ?_|refine af ?_)|(exfalso;omega)))
  all_goals exact⟨.lst 28 [],[],.inl (.inr rfl),SubN.nil _,rfl,[],⟨h1,h2⟩,rfl⟩
 ·(repeat' (first|(with_reducible (first|refine ab (λh=>?_) (λh=>?_)|refine ai (λh=>?_) (λh=>?_)|refine ak (λh=>?_) (λh=>?_))<;>(try simp only[DZ]at h))|(with_reducible refine AI (by omega) ?_)|simp only[EVz,seval,↓reduceIte,EV6,EV7]|(with_reducible intro blk hblk;(try(have hnx:=hblk;simp only[EVK]at hnx;first|(have hne:=AI hnx hne)|(have hne:=hnx))))|(with_reducible first|refine ae ?_ ?_|refine af ?_)|(exfalso;omega)))
  all_goals exact⟨.lst 28 (ds.map Dd.cs),[],.inl (.inr ⟨rfl,rfl⟩),SubN.nil _,rfl,ds,⟨h1,h2⟩,rfl⟩
end
section
variable (G:Glob)
variable (hG:GOk G)
include hG
end
theorem LeRep.agg {xs ys:List AV} (h:LeReps xs ys):LeRep (.agg xs) (.agg ys):=λσ w u E=>by
 simp only[Rep]at E ⊢
 obtain⟨vs,e,o,E⟩:=E
 exact⟨vs,e,o,h.rep E⟩
theorem LeRep.nil {sz:Nat}:LeRep .nil (.lst sz []):=λσ w u E=>by
 simp only[Rep]at E ⊢
 exact .inl ⟨E,trivial⟩
theorem Pure.lr {G:Glob} {P:Program} {k:FuncId} {args E:List AV} {r:AV} (h:Pure G P k E r) (J:LeReps args E):Pure G P k args r:=⟨h.1,λρ w vs I F=>h.2 ρ w vs I (J.rep F)⟩
section
variable {G:Glob} {P:Program} {env:Env} {σ:Store} {K:Env->Store->Prop} {tK:Tag K}
end
theorem le_zU:LeRep (.agg zU) (.agg fg.cs):=by
 refine LeRep.agg ?_
 rw[U.cs_eq]
 unfold zU
 repeat' first
  |exact LeReps.nil
  |refine LeReps.cons ?_ ?_
 all_goals first|exact LeRep.refl _|exact LeRep.nil
section
variable (G:Glob) (hG:GOk G)
theorem f71:Pure G Tryz.prog 71 [] (.agg zU):=by
 refine Pure.w c71 λR J=>?_
 unfold s71 r71
 (repeat' (first|simp only[EVz,seval,↓reduceIte,EV6,EV7]|(with_reducible intro I E;(try(have F:=E;simp only[EVK]at F;(have M:=F))))))
 all_goals exact RQ J
include hG
end
def Made (u:U):Prop:=∃E:List Dd,u=(allP fg E).1
theorem made_good {u:U} (h:Made u):Good u/\u.kind=0:=by
 obtain⟨E,rfl⟩:=h
 obtain⟨F,I⟩:=jZ (l:=E) kE
 exact⟨F,I.kind⟩
theorem nd_two {α:Type} {l r:List α} {i:Nat} {x y:α} (E:l.Nodup) (I:Rest l i x r) (J:y∈l.take i):¬x=y:=by
 have e:l=l.take (i+1)++l.drop (i+1):=(take_append_drop _ _).symm
 rw[e,I.take]at E
 have F:=(nodup_append.1 (nodup_append.1 E).1).2.2
 exact λh=>F y J x (by simp) h.symm
section
variable (G:Glob) (hG:GOk G)
include hG
theorem f31 (E:List Dd) (V:E.length<=1536) (T:∀d∈E,d.it.Shorts):
  aj G Tryz.prog 31 [.lst 28 (E.map Dd.cs)] [] (λr σ'=>σ'=[]/\∃m,r= .tup [.agg (allP fg E).1.cs,m]):=by
 have M:=f71 G
 have J:=(f70 G hG fg kE E (by omega) T).lr (.cons le_zU (.cons (LeRep.refl _) .nil))
 unfold allAV at J
 unfold zU at J M
 refine aj.w c31 ?_
 unfold s31 r31
 (repeat' (first|(with_reducible first|refine aa M ?_|refine aa J ?_)|simp only[EVz,seval,↓reduceIte,EV6,EV7]|(with_reducible intro N F;(try(have I:=F;simp only[EVK]at I;(have O:=I))))))
 all_goals exact⟨_,[],AVle.rfl' _,SubN.nil _,rfl,_,rfl⟩
theorem f7 (hS:eK G) (Y:∀D:List Int,(0:Int)∈D->(1048577:Int)∈D->D.length<10000->fL G D) (T:List Gz) (ac:T.length<=8) (ht:∀g∈T,g.tiny) (hf:∀g∈T,g.fit) (day:Int) (p:List UInt8):
  aj G Tryz.prog 7 [.int .i64 day,.str p,.lst 4 (T.map Gz.cs)] [] (λr σ'=>σ'=[]/\∃u,Made u/\r= .agg u.cs):=by
 have V:∀g∈T,∀a∈g.acts,∀x∈a.items,x.few=true:=λg E a F x O=>((ht g E).2 a F).2 x O
 have X:∀g∈T,∀a∈g.acts,∀x∈a.items,x.fit:=λg E a F x O=>((hf g E).2 a F).2 x O
 have hO:=f69 G hS Y Itm.Shorts T ac (λg E=>(ht g E).1) (λg E a F=>((ht g E).2 a F).1) (λg E a F x O=>kO x (X g E a F x O) (V g E a F x O))
  (λg E a F x O y hy=>by
   have h1:=kO x (X g E a F x O) (V g E a F x O)
   exact((Itm.Shorts_eq x).1 h1).2 y hy) day p
 have hR:aj G Tryz.prog 30 [.int .i64 day,.str p,.lst 4 (T.map Gz.cs)] [] (λr σ'=>σ'=[]/\∃M:List Dd,(M.length<=1536/\∀d∈M,d.it.Shorts)/\r= .lst 28 (M.map Dd.cs)):=by
  refine aj.w c30 ?_
  unfold s30 r30
  (repeat' (simp only[EVz,seval,↓reduceIte,EV6,EV7]))
  refine bf hO ?_
  rintro _ ⟨M,h,rfl⟩
  (repeat' (simp only[EVz,seval,↓reduceIte,EV6,EV7]))
  all_goals exact retI ⟨rfl,M,h,rfl⟩
 refine aj.w c7 ?_
 unfold s7 r7
 (repeat' (first|simp only[EVz,seval,↓reduceIte,EV6,EV7]|(with_reducible intro Z I;(try(have J:=I;simp only[EVK]at J;(have N:=J))))))
 refine bf hR ?_
 rintro _ ⟨M,⟨h1,h2⟩,rfl⟩
 have hD:=f31 G hG M h1 h2
 obtain⟨u,hu⟩:∃u,(allP fg M).1=u:=⟨_,rfl⟩
 rw[hu]at hD
 (repeat' (simp only[EVz,seval,↓reduceIte,EV6,EV7,N]))
 refine bf hD ?_
 rintro _ ⟨m,rfl⟩
 (repeat' (first|simp only[EVz,seval,↓reduceIte,EV6,EV7,N]|(with_reducible intro Z I;(try(have J:=I;simp only[EVK]at J;(have N:=AI J N))))))
 all_goals exact⟨_,[],AVle.rfl' _,SubN.nil _,rfl,u,⟨M,hu.symm⟩,rfl⟩
set_option maxHeartbeats 8000000 in
theorem f3 (hS:eK G) (F:∀D:List Int,(0:Int)∈D->(1048577:Int)∈D->D.length<10000->fL G D) (N:List Gz) (ac:N.length<1000000000000000000) (hf:∀g∈N,g.fit) (day:Int) (p:List UInt8):
  Pure G Tryz.prog 3 [.lst 4 (N.map Gz.cs),.int .i64 day,.str p] (.bool true):=by
 have hF:=f6 G N ac hf p
 refine Pure.w c3 λR hR=>?_
 unfold s3 r3
 (repeat' (simp only[EVz,seval,↓reduceIte,EV6,EV7]))
 refine bf hF ?_
 rintro _ ⟨b,rfl,hb⟩
 cases b with
 |false=>
  (repeat' (simp only[EVz,seval,↓reduceIte,EV6,EV7]))
  all_goals exact RQ hR
 |true=>
  obtain⟨h8,ht⟩:=hb rfl
  have hB:=f7 G hG hS F N h8 ht hf day p
  (repeat' (simp only[EVz,seval,↓reduceIte,EV6,EV7]))
  refine bf hB ?_
  rintro _ ⟨u,hu,rfl⟩
  obtain⟨V,hk⟩:=made_good hu
  have J:=V.short
  have hV:=f9 G hG u J
  have hM:=f8 G u J
  have hI:=f10 G u J.1
  have Z:=V.nd
  have T:u.ids.length<=1024:=by have:=V.cnt;unfold U.ids;rw[length_map];exact this
  rw[j6,gY V]at hM
  rw[gY V]at hV
  rw[U.cs_eq u,hk]at hV hM hI
  generalize u.ids=l at Z T hI
  (repeat' (first|(with_reducible first|refine aa hM ?_|refine aa hV ?_|refine aa hI ?_)|simp only[EVz,seval,↓reduceIte,EV6,EV7,U.cs_eq u,hk,I]|simp only[EVz,seval,↓reduceIte,EV6,EV7,U.cs_eq u,hk]|(with_reducible intro al O;(try(have X:=O;simp only[EVK]at X;(have I:=X))))))
  refine ax l (λi r (c:Unit)=>True) (λi c=>[(8,.lst 3 (l.map Idd.cs)),(9,.int .i64 i)]) (λ_ _=>[]) () trivial (Weak.sub (SubN.nil _)) (by omega) (λi x r c ag E hw=>?_) (λc ag Z=>?_)
  ·have an:=E.lt
   (repeat' (simp only[EVz,seval,↓reduceIte,EV6,EV7,E.yes,E.le0,E.lt',E.get,E.row,hw]))
   refine W_take l i (Nat.le_of_lt E.lt) (λk (c:Unit)=>True) (λk c=>[(8,.lst 3 (l.map Idd.cs)),(9,.int .i64 i),(10,.int .i64 k)]) (λ_ _=>[]) () trivial (Weak.rfl' _ _) (by omega) (λk y c Y M ah=>?_) (λc Y ad=>?_)
   ·have I:decide (x=y)=false:=decide_eq_false (nd_two Z E M.mem)
    (repeat' (simp only[EVz,seval,↓reduceIte,EV6,EV7,E.le0,E.lt',E.get,E.row,M.yes,M.le0,M.lt',M.row,ah,idd_eq,I]))
    all_goals exact LT_next M () trivial (Weak.rfl' _ _)
   ·(repeat' (simp only[EVz,seval,↓reduceIte,EV6,EV7,ad,hw]))
    all_goals exact am E () trivial (Weak.rfl' _ _)
  ·(repeat' (simp only[EVz,seval,↓reduceIte,EV6,EV7,Z]))
   all_goals exact RQ hR
end
theorem topValid (G:Glob) (hG:GOk G) (E:List Gz) (F:E.length<1000000000000000000) (I:∀g∈E,g.fit) (day:Int) (p:List UInt8):
  Pure G Tryz.prog 3 [.lst 4 (E.map Gz.cs),.int .i64 day,.str p] (.bool true):=
 f3 G hG (sortSp G) (bothC G (sortSp G) (sortIn G)) E F I day p
end Go.Av
