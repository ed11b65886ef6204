/-
  ABSTRACT VALUES, 16: a region that draws; code; a function.
-/
import Derived.Test.YtnoakpkjccigoaaGreatDoorXAv15b
import Derived.Lib.Builder
namespace Go.Av
open Go Go.RowKit List
set_option linter.unusedSimpArgs false
set_option linter.unusedVariables false
section
variable {G:Glob} {P:Program} {ρ:Store} {w0:World} {σ0:Store} {n:Nat}
theorem ib {ro:Nat->Bool} {ops:Array Oper} {Q:Act->Prop} {K:Env->Prop} {σ:Store} {w:World}
  (hK:∀env a,K env->(∀j,Rep (σ++ρ) w (env.get j) (a.tmps.getD j undef))->n<=a.tmps.size->a.defers=[]->Q a) (hS:Sat G (σ++ρ) w):
  ∀(l:List Oper) (sl:List SOper) (env:Env) (a:Act),ci P n ro ops l=some sl->qrun G P sl env σ K->(∀j,Rep (σ++ρ) w (env.get j) (a.tmps.getD j undef))->n<=a.tmps.size->a.defers=[]->
   wpQuiet P ops (QC G σ ρ w) Q l a
 |[],sl,env,a,ht,h,hE,hs,hd=>by cases ht;exact hK _ _ h hE hs hd
 |o::l,sl,env,a,ht,h,hE,hs,hd=>by
  obtain⟨so,g,rest,e1,e2,e3,e4,rfl⟩:=dH ht
  have go:∀env:Env,aqc G P so env σ (λr=>qrun G P rest (env.put o.dst r) σ K)->(∀j,Rep (σ++ρ) w (env.get j) (a.tmps.getD j undef))->o.quiet P a (QC G σ ρ w) (wpQuiet P ops (QC G σ ρ w) Q l):=by
   intro env h hE
   have e1:=e1.resolve_right λe=>by
    rcases e with e|⟨_,_,_,_,_,e⟩<;>(rw[e]at h;exact h)
   obtain⟨r,u,hk,hr,hq⟩:=aqc_sound e1 hS hE h
   exact⟨u,hq,ib hK hS l rest _ _ e4 hk (mg hE e3 hs hr) (by rw[k8];exact hs) (by rw[g8];exact hd)⟩
  have skip:∀env:Env,qrun G P rest (env.put o.dst aC) σ K->(∀j,Rep (σ++ρ) w (env.get j) (a.tmps.getD j undef))->wpQuiet P ops (QC G σ ρ w) Q l (a.put o.dst undef):=λenv h hE=>
   ib hK hS l rest _ _ e4 h (mg hE e3 hs (cg _ w)) (by rw[k8];exact hs) (by rw[g8];exact hd)
  cases hg:o.guard with
  |none=>
   rw[hg]at e2
   cases e2
   simp only[wpQuiet]
   rw[if_pos (cC hg)]
   exact go env h hE
  |some jb=>
   obtain⟨j,want⟩:=jb
   rw[hg]at e2
   obtain⟨d,hd',rfl⟩:=bI e2
   have h:gd (env.get d) want (aqc G P so (env.set d (.bool want)) σ λr=>qrun G P rest ((env.set d (.bool want)).put o.dst r) σ K)
    (qrun G P rest ((env.set d (.bool (!want))).put o.dst aC) σ K) (qrun G P rest (env.put o.dst aC) σ K):=h
   unfold gd at h
   simp only[wpQuiet]
   split at h
   ·rename_i b hb
    rw[bE hg hd' hE hb]
    by_cases hbw:b=want
    ·subst hbw
     simp only[BEq.rfl,if_true]
     exact go _ (h.1 rfl) (mr hE hb)
    ·have hbn:b= !want:=by cases b<;>cases want<;>simp_all
     have:(b==want)=false:=by simpa using hbw
     simp only[this]
     exact skip _ (h.2 hbn) (mr hE (by rw[hb,hbn]))
   ·rename_i hb
    rw[cr hg hd' hE hb]
    exact skip _ h hE
   ·exact h.elim
theorem jy {ro:Nat->Bool} {ops:Array Oper} {Q:Exit->Act->World->Prop} {K:Env->Store->Prop} (hsel:Region.noSelect ops=true) (hQ:∀c a w,¬Q (.panic c) a w)
  (hK:∀env σ a w,K env σ->St G ρ w0 σ0 n env σ a w->Q .normal a w):
  ∀(l:List Oper) (sl:List SOper) (k:Nat) (listed:Array Bool) (env:Env) (σ:Store) (a:Act) (w:World),(∀j,l[j]? =ops[k+j]?)->ci P n ro ops l=some sl->gt ops sl k listed=true->
   srun G P sl env σ K->St G ρ w0 σ0 n env σ a w->wpAny P .any ops Q l.length listed a w
 |[],sl,k,listed,env,σ,a,w,hl,ht,hd,h,st=>by
  cases ht
  simp only[gt,isEmpty_iff]at hd
  exact⟨hd,hK _ _ _ _ h st⟩
 |o::l,sl,k,listed,env,σ,a,w,hl,ht,hd,h,st=>by
  obtain⟨so,g,rest,e1,e2,e3,e4,rfl⟩:=dH ht
  have hk0:ops[k]? =some o:=by have:=hl 0;simpa using this.symm
  have hl':∀j,l[j]? =ops[k+1+j]? :=λj=>by have:=hl (j+1);simpa[Nat.add_assoc,Nat.add_comm 1 j]using this
  simp only[gt,Bool.and_eq_true]at hd
  obtain⟨hd1,hd2⟩:=hd
  have next:∀env σ a w,srun G P rest env σ K->St G ρ w0 σ0 n env σ a w->wpAny P .any ops Q l.length (listed.setIfInBounds k true) a w:=
   λenv σ a w h st=>jy hsel hQ hK l rest (k+1) _ env σ a w hl' e4 hd2 h st
  have go:∀env,aop G P so env σ (λr σ'=>srun G P rest (env.put o.dst r) σ' K)->St G ρ w0 σ0 n env σ a w->Region.wanted o (yielded ops a.tmps)=true->wpAny P .any ops Q (l.length+1) listed a w:=by
   intro env h st hw
   rcases Bool.or_eq_true _ _ ▸ hd1 with hs|hs
   ·simp only[Bool.and_eq_true]at hs
    obtain⟨hs1,hs2,hs3⟩:=hs
    have e1:bQ P o.op=some so:=e1.resolve_right λe=>by
     rcases e with e|⟨_,_,_,_,_,e⟩<;>(rw[e]at hs1;exact absurd hs1 (by simp[SOp.slot]))
    rw[j5 hs1]at h
    obtain⟨r,u,hk,hr,hrun⟩:=dg rfl e1 rfl st.sat st.env h
    refine wpAny_take hk0 hsel hs2 hs3 (λc a w h=>(hQ _ _ _ h).elim) (v:=u) (.inl ⟨hw,λw'=>hrun w' (λc=>by rw[fE e1 hs1]at c;cases c)⟩) ?_
    exact next _ _ _ _ hk (st.put e3 st.sat (Ev.refl σ w) hr)
   ·have hs:Region.ready .any ops listed=[k]:=by simpa using hs
    refine wpAny_all hs (by simp) λi hi=>?_
    have hi:i=k:=by simpa using hi
    subst hi
    unfold wpOp
    simp only[hk0]
    rw[if_pos hw]
    refine .inl ?_
    refine e1.elim (λe1=>gx rfl e1 st.sat st.env h λv r σ' w' hk hs he hr=>next _ _ _ _ hk (st.put e3 hs he hr)) λe=>?_
    rcases e with e|⟨t,x,m,ho,hm,e⟩
    rotate_left
    ·rw[e]at h
     exact mR (n:=m) (K:=λr σ'=>srun G P rest (env.put o.dst r) σ' K) ho st.sat st.env h λv r σ' w' hk hs he hr=>next _ _ _ _ hk (st.put e3 hs he hr)
    rw[e]at h
    obtain⟨v,w',r,σ',hr,hk,hs,he,hrep⟩:=h ρ w a o rfl st.sat st.env
    rcases hr with hr|⟨hr,rfl⟩
    ·exact bF hr (next _ _ _ _ hk (st.put e3 hs he hrep))
    ·exact eB hr (next _ _ _ _ hk (st.put e3 hs he hrep))
  have skip:∀env,srun G P rest (env.put o.dst aC) σ K->St G ρ w0 σ0 n env σ a w->Region.wanted o (yielded ops a.tmps)=false->wpAny P .any ops Q (l.length+1) listed a w:=by
   intro env h st hw
   have hn:=next _ _ _ _ h (st.put e3 st.sat (Ev.refl σ w) (cg _ w))
   rcases Bool.or_eq_true _ _ ▸ hd1 with hs|hs
   ·simp only[Bool.and_eq_true]at hs
    exact wpAny_take hk0 hsel hs.2.1 hs.2.2 (λc a w h=>(hQ _ _ _ h).elim) (v:=undef) (.inr ⟨hw,rfl⟩) hn
   ·have hs:Region.ready .any ops listed=[k]:=by simpa using hs
    refine wpAny_all hs (by simp) λi hi=>?_
    have hi:i=k:=by simpa using hi
    subst hi
    unfold wpOp
    simp only[hk0,hw]
    exact hn
  cases hg:o.guard with
  |none=>
   rw[hg]at e2
   cases e2
   exact go env h st (cC hg)
  |some jb=>
   obtain⟨j,want⟩:=jb
   rw[hg]at e2
   obtain⟨d,hd,rfl⟩:=bI e2
   have h:gd (env.get d) want (aop G P so (env.set d (.bool want)) σ λr σ'=>srun G P rest ((env.set d (.bool want)).put o.dst r) σ' K)
    (srun G P rest ((env.set d (.bool (!want))).put o.dst aC) σ K) (srun G P rest (env.put o.dst aC) σ K):=h
   unfold gd at h
   split at h
   ·rename_i b hb
    by_cases hbw:b=want
    ·subst hbw
     exact go _ (h.1 rfl) (st.set hb) (by rw[bE hg hd st.env hb];simp)
    ·have hbn:b= !want:=by cases b<;>cases want<;>simp_all
     exact skip _ (h.2 hbn) (st.set (by rw[hb,hbn])) (by rw[bE hg hd st.env hb];simpa using hbw)
   ·rename_i hb
    exact skip _ h st (cr hg hd st.env hb)
   ·exact h.elim
theorem swp_sound {keep:Nat->List Nat×Bool}:∀(c:Code) (s:SCode) (_:trans P n keep c=some s) (QA:Exit->Env->Store->Prop) (Q:Exit->Act->World->Prop)
  (_:∀e env σ a w,QA e env σ->St G ρ w0 σ0 n env σ a w->Q e a w) (env:Env) (σ:Store) (a:Act) (w:World),swp G P s QA env σ->St G ρ w0 σ0 n env σ a w->c.wp P Q a w:=by
 intro c
 induction c with
 |skip=>intro s ht QA Q hQ env σ a w h st;cases ht;exact wp_skip (hQ _ _ _ _ _ h st)
 |exit id=>intro s ht QA Q hQ env σ a w h st;cases ht;exact wp_exit (hQ _ _ _ _ _ h st)
 |ret=>intro s ht QA Q hQ env σ a w h st;cases ht;exact wp_ret (hQ _ _ _ _ _ h st)
 |region id ops draws=>
  intro s ht QA Q hQ env σ a w h st
  cases draws with
  |false=>
   have ht:((ci P n (λd=>(keep (2000000+d)).2) ops ops.toList).map λsos=>if (keep id).2 then SCode.ghost sos (keep id).1 else SCode.region sos (keep id).1)=some s:=ht
   obtain⟨sos,h1,rfl⟩:=Option.map_eq_some_iff.1 ht
   by_cases hk:(keep id).2=true
   ·rw[if_pos hk]at h
    have h:srun G P sos env σ λenv σ=>∃env' σ',Weak G (env.keep (keep id).1) σ env' σ'/\QA .normal env' σ':=h
    refine wp_region_list (cP ?_ _ _ _ _ _ _ h1 h st)
    rintro env σ a w ⟨env',σ',hw,hq⟩ st
    exact hQ _ _ _ _ _ hq ((st.keep _).weak hw)
   ·rw[if_neg hk]at h
    have h:srun G P sos env σ λenv σ=>QA .normal (env.keep (keep id).1) σ:=h
    refine wp_region_list (cP ?_ _ _ _ _ _ _ h1 h st)
    intro env σ a w hq st
    exact hQ _ _ _ _ _ hq (st.keep _)
  |true=>
   have ht:((ci P n (λd=>(keep (2000000+d)).2) ops ops.toList).map λsos=>
    if P.follows .mixedOrders&&(Region.noSelect ops&&gt ops sos 0 (Array.replicate ops.size false))then SCode.drawL sos (keep id).1
    else match (if P.follows .mixedOrders&&Region.noSelect ops then j7 P n (λd=>(keep (2000000+d)).2) ops ops.size (Array.replicate ops.size false) (jT (λd=>(keep (2000000+d)).2) ops.toList)else none)with
     |some sl=>.drawL sl (keep id).1
     |none=>if (P.follows .mixedOrders&&Region.lexB .any ops)&&sos.all (λso=>quietOp so.op)then .draw sos (keep id).1 else
      match (if P.follows .mixedOrders&&Region.noSelect ops then jZ P n (λd=>(keep (2000000+d)).2) ops ops.size (Array.replicate ops.size false) (jT (λd=>(keep (2000000+d)).2) ops.toList)else none)with
      |some t=>.drawT t (keep id).1
      |none=>.bad)=some s:=ht
   obtain⟨sos,h1,hs⟩:=Option.map_eq_some_iff.1 ht
   have hev:Ev σ w σ {w with drawn:=w.drawn+1}:=Ev.drew
   split at hs
   ·rename_i hc
    subst hs
    simp only[Bool.and_eq_true]at hc
    have h:srun G P sos env σ λenv σ=>QA .normal (env.keep (keep id).1) σ:=h
    have st':St G ρ w0 σ0 n env σ a {w with drawn:=w.drawn+1}:=⟨st.sat.step hev st.sat.nodup_left (λb hb=>.inl hb) (λb x hx=>(st.sat.obj b x (mem_append.2 (.inl hx))).keep hev rfl),st.ev.trans hev,λj=>Rep.ev hev _ _ (st.env j),st.size,st.defers⟩
    refine wp_mono (Q:=λe a w=>(∀c,e≠ .panic c)/\Q e a w) (wp_region_any hc.1 ?_) (λ_ _ _ h=>h.2)
    have:=jy (Q:=λe a w=>(∀c,e≠ .panic c)/\Q e a w) (K:=λenv σ=>QA .normal (env.keep (keep id).1) σ) hc.2.1 (λc a w h=>h.1 c rfl)
     (λenv σ a w hq st=>⟨(by intro c h;cases h),hQ _ _ _ _ _ hq (st.keep _)⟩) ops.toList sos 0 (Array.replicate ops.size false) env σ a _ (by simp) h1 hc.2.2 h st'
    simpa using this
   ·split at hs
    ·rename_i sl hsl
     subst hs
     split at hsl
     rotate_left
     ·cases hsl
     rename_i hc
     simp only[Bool.and_eq_true]at hc
     have h:srun G P sl env σ λenv σ=>QA .normal (env.keep (keep id).1) σ:=h
     have st':St G ρ w0 σ0 n env σ a {w with drawn:=w.drawn+1}:=⟨st.sat.step hev st.sat.nodup_left (λb hb=>.inl hb) (λb x hx=>(st.sat.obj b x (mem_append.2 (.inl hx))).keep hev rfl),st.ev.trans hev,λj=>Rep.ev hev _ _ (st.env j),st.size,st.defers⟩
     have st1:St G ρ {w with drawn:=w.drawn+1} σ n env σ a {w with drawn:=w.drawn+1}:={st' with ev:=Ev.refl _ _}
     refine wp_mono (Q:=λe a w=>(∀c,e≠ .panic c)/\Q e a w) (wp_region_held (S:=bS σ {w with drawn:=w.drawn+1}) hc.1 ?_) (λ_ _ _ h=>h.2)
     exact eK (Q:=λe a w=>(∀c,e≠ .panic c)/\Q e a w) (K:=λenv σ=>QA .normal (env.keep (keep id).1) σ) hc.2 (λc a w h=>h.1 c rfl)
      (λenv σ' a w' hq st2=>⟨(by intro c h;cases h),hQ _ _ _ _ _ hq (({st2 with ev:=st'.ev.trans st2.ev}:St G ρ w0 σ0 n env σ' a w').keep _)⟩) st'.sat ops.size _ _ sl env σ a _ hsl h st1 (λj _=>st1.env j)
    split at hs
    ·rename_i hc
     subst hs
     simp only[Bool.and_eq_true]at hc
     have hc:=hc.1
     have h:qrun G P sos env σ λenv=>QA .normal (env.keep (keep id).1) σ:=h
     refine wp_region_quiet (C:=QC G σ ρ w) hc.1 hc.2 ⟨st.sat.step hev st.sat.nodup_left (λb hb=>.inl hb) (λb x hx=>?_),hev,Nat.le_refl _,λ_ _=>rfl⟩ ?_
     ·exact(st.sat.obj b x (mem_append.2 (.inl hx))).keep hev rfl
     ·refine ib (Q:=λa'=>∀w',QC G σ ρ w w'->Q .normal a' w') ?_ st.sat _ _ _ _ h1 h st.env st.size st.defers
      intro env' a' hk hE hs hd w' hC
      have st':St G ρ w0 σ0 n env' σ a' w':=⟨hC.1,st.ev.trans hC.2.1,λj=>Rep.ev hC.2.1 _ _ (hE j),hs,hd⟩
      exact hQ _ _ _ _ _ hk (st'.keep _)
    split at hs
    ·rename_i tr htr
     subst hs
     split at htr
     rotate_left
     ·cases htr
     rename_i hc
     simp only[Bool.and_eq_true]at hc
     have h:trun G P tr env σ λenv σ=>∃env' σ',Weak G (env.keep (keep id).1) σ env' σ'/\QA .normal env' σ':=h
     have st':St G ρ w0 σ0 n env σ a {w with drawn:=w.drawn+1}:=⟨st.sat.step hev st.sat.nodup_left (λb hb=>.inl hb) (λb x hx=>(st.sat.obj b x (mem_append.2 (.inl hx))).keep hev rfl),st.ev.trans hev,λj=>Rep.ev hev _ _ (st.env j),st.size,st.defers⟩
     have st1:St G ρ {w with drawn:=w.drawn+1} σ n env σ a {w with drawn:=w.drawn+1}:={st' with ev:=Ev.refl _ _}
     refine wp_mono (Q:=λe a w=>(∀c,e≠ .panic c)/\Q e a w) (wp_region_held (S:=bS σ {w with drawn:=w.drawn+1}) hc.1 ?_) (λ_ _ _ h=>h.2)
     exact eE (Q:=λe a w=>(∀c,e≠ .panic c)/\Q e a w) (K:=λenv σ=>∃env' σ',Weak G (env.keep (keep id).1) σ env' σ'/\QA .normal env' σ') hc.2 (λc a w h=>h.1 c rfl)
      (λenv σ' a w' hq st2=>⟨(by intro c h;cases h),by
       obtain⟨env',σ'',hw,hq⟩:=hq
       exact hQ _ _ _ _ _ hq ((({st2 with ev:=st'.ev.trans st2.ev}:St G ρ w0 σ0 n env σ' a w').keep _).weak hw)⟩) st'.sat ops.size _ _ tr env σ a _ htr h st1 (λj _=>st1.env j)
    ·subst hs;exact h.elim
 |seq x y ihx ihy=>
  intro s ht QA Q hQ env σ a w h st
  simp only[trans]at ht
  split at ht
  ·rename_i sx sy h1 h2
   cases ht
   refine wp_seq (ihx _ h1 _ _ ?_ _ _ _ _ h st)
   intro e env σ a w hq st
   cases e with
   |normal=>exact ihy _ h2 _ _ hQ _ _ _ _ hq st
   |exit id=>exact hQ (.exit id) _ _ _ _ hq st
   |goto l=>exact hQ (.goto l) _ _ _ _ hq st
   |ret=>exact hQ .ret _ _ _ _ hq st
   |panic c=>exact hQ (.panic c) _ _ _ _ hq st
   |outgrown=>exact hQ .outgrown _ _ _ _ hq st
  ·cases ht
 |cond x y z ihy ihz=>
  intro s ht QA Q hQ env σ a w h st
  simp only[trans]at ht
  split at ht
  ·rename_i sx sy h1 h2
   cases ht
   simp only[swp]at h
   split at h
   ·rename_i t he
    have hx:=ao (G:=G) st.sat st.env x
    rw[he]at hx
    simp only[Rep]at hx
    exact wp_cond_split hx (λe=>ihy _ h1 _ _ hQ _ _ _ _ (h.1 e) st) (λe=>ihz _ h2 _ _ hQ _ _ _ _ (h.2 e) st)
   ·exact h.elim
  ·cases ht
 |block id x ih=>
  intro s ht QA Q hQ env σ a w h st
  simp only[trans]at ht
  obtain⟨sx,h1,rfl⟩:=Option.map_eq_some_iff.1 ht
  have h:swp G P sx (jL id (fh (λenv σ=>QA .normal (env.keep (keep (id+1000000)).1) σ) QA)) env σ:=h
  refine wp_block (ih _ h1 _ _ ?_ _ _ _ _ h st)
  intro e env σ a w hq st
  cases e with
  |normal=>exact hQ .normal _ _ _ _ hq (st.keep _)
  |exit id'=>
   by_cases hid:id'=id
   ·subst hid
    have hq:QA .normal (env.keep (keep (id'+1000000)).1) σ:=by
     have hq:(if id'=id' then QA .normal (env.keep (keep (id'+1000000)).1) σ else QA (.exit id') env σ):=hq
     rwa [if_pos rfl]at hq
    show if id'=id' then Q .normal a w else Q (.exit id') a w
    rw[if_pos rfl];exact hQ _ _ _ _ _ hq (st.keep _)
   ·have hq:QA (.exit id') env σ:=by
     have hq:(if id'=id then QA .normal (env.keep (keep (id+1000000)).1) σ else QA (.exit id') env σ):=hq
     rwa [if_neg hid]at hq
    show if id'=id then Q .normal a w else Q (.exit id') a w
    rw[if_neg hid];exact hQ _ _ _ _ _ hq st
  |goto l=>exact hQ (.goto l) _ _ _ _ hq st
  |ret=>exact hQ .ret _ _ _ _ hq st
  |panic c=>exact hQ (.panic c) _ _ _ _ hq st
  |outgrown=>exact hQ .outgrown _ _ _ _ hq st
 |loop x ih=>
  intro s ht QA Q hQ env σ a w h st
  simp only[trans]at ht
  obtain⟨sx,h1,rfl⟩:=Option.map_eq_some_iff.1 ht
  obtain⟨I,k,env0,σ1,hI,hw,hround⟩:=h
  refine wp_loop_ghost (λk a w=>∃env σ,I k env σ/\St G ρ w0 σ0 n env σ a w) k ⟨env0,σ1,hI,st.weak hw⟩ ?_
  rintro k a w ⟨env,σ,hI,st⟩
  refine ih _ h1 _ _ ?_ _ _ _ _ (hround k env σ hI) st
  intro e env σ a w hq st
  cases e with
  |normal=>
   obtain⟨m,env'',σ'',hm,hI,hw⟩:=hq
   exact⟨m,hm,env'',σ'',hI,st.weak hw⟩
  |exit id=>exact hQ (.exit id) _ _ _ _ hq st
  |goto l=>exact hQ (.goto l) _ _ _ _ hq st
  |ret=>exact hQ .ret _ _ _ _ hq st
  |panic c=>exact hQ (.panic c) _ _ _ _ hq st
  |outgrown=>exact hQ .outgrown _ _ _ _ hq st
 |_=>intro s ht QA Q hQ env σ a w h st;cases ht;exact h.elim
/-! ### a function -/
def ep (P:Program):List ResultVar->Option (List (Nat×Option (Bool×Nat)))
 |[]=>some []
 | .tmp t::rs=>(ep P rs).map ((t,none):: ·)
 | .cell a t::rs=>match P.underlying t,bj P t with
  |some d,some n=>if aggD d||n==1 then (ep P rs).map ((a,some (aggD d,n)):: ·)else none
  |_,_=>none
def cu:List AV->AV
 |[x]=>x
 |xs=>.tup xs
def retX:List (Nat×Option (Bool×Nat))->Env->Store->(List AV->Prop)->Prop
 |[],_,_,K=>K []
 |(t,none)::rs,env,σ,K=>retX rs env σ λxs=>K (env.get t::xs)
 |(t,some (agg,n))::rs,env,σ,K=>l6 σ agg n (env.get t) λx=>retX rs env σ λxs=>K (x::xs)
def RET (r:AV) (σ:Store) (R:AV->Store->Prop):Prop:=∃r' σ',AVle r r'/\SubN σ' σ/\R r' σ'
def retQ (ts:List (Nat×Option (Bool×Nat))) (R:AV->Store->Prop):Exit->Env->Store->Prop
 | .normal,env,σ=>retX ts env σ λxs=>RET (cu xs) σ R
 | .ret,env,σ=>retX ts env σ λxs=>RET (cu xs) σ R
 |_,_,_=>False
def cL:Nat->List AV->Env
 |_,[]=>[]
 |i,x::xs=>(i,x)::cL (i+1) xs
theorem j3:∀(i:Nat) (xs:List AV) (j:Nat),(cL i xs).get j=if i<=j then xs.getD (j-i) .any else .any
 |i,[],j=>by simp[cL,Env.get]
 |i,x::xs,j=>by
  simp only[cL,Env.get]
  by_cases h:i=j
  ·subst h;simp
  ·rw[if_neg h,j3]
   by_cases h2:i<=j
   ·have h3:i+1<=j:=by omega
    rw[if_pos h2,if_pos h3,show j-i=(j-(i+1))+1 by omega,getD_cons_succ]
   ·rw[if_neg h2,if_neg (by omega)]
theorem pe {τ:Store} {w:World} {args:List AV} {vs:Array Value} (k:Nat) (h:RepL τ w args vs.toList) (j:Nat):
  Rep τ w ((cL 0 args).get j) ((vs++Array.replicate k undef).getD j undef):=by
 rw[j3,if_pos (Nat.zero_le j),Nat.sub_zero]
 by_cases hj:j<args.length
 ·have hl:=h.length
  have h2:=h.get j hj
  have hv:j<vs.size:=by simpa[←hl]using hj
  have e1:args.getD j .any=args[j]:=by simp[hj]
  have e2:(vs++Array.replicate k undef).getD j undef=vs.toList[j]'(by simpa using hv):=by
   rw[Array.getD_eq_getD_getElem?,Array.getElem?_append_left hv]
   simp[hv]
  rw[e1,e2]
  exact h2 _
 ·have e1:args.getD j .any= .any:=by simp[Nat.not_lt.1 hj]
  rw[e1];simp only[Rep]
def kl (tmps:Array Value):ResultVar->Sem Value
 | .tmp t=>pure (tmps.getD t undef)
 | .cell a t=>do loadVar t (←asAddr (tmps.getD a undef))
theorem mm {σ:Store} {w:World} {env:Env} {a:Act} (hS:Sat G (σ++ρ) w) (hE:∀j,Rep (σ++ρ) w (env.get j) (a.tmps.getD j undef)):∀{rs:List ResultVar} {ts:List (Nat×Option (Bool×Nat))},ep P rs=some ts->
  ∀{K:List AV->Prop},retX ts env σ K->∃xs vs,K xs/\RepL (σ++ρ) w xs vs/\(rs.mapM (kl a.tmps)).run P w= .ok vs w
 |[],ts,h,K,hK=>by cases h;exact⟨[],[],hK,by simp[RepL],by simp⟩
 | .tmp t::rs,ts,h,K,hK=>by
  simp only[ep]at h
  obtain⟨ts',h',rfl⟩:=Option.map_eq_some_iff.1 h
  simp only[retX]at hK
  obtain⟨xs,vs,hk,hr,hrun⟩:=mm hS hE h' hK
  exact⟨env.get t::xs,a.tmps.getD t undef::vs,hk,by simp only[RepL];exact⟨_,_,rfl,hE t,hr⟩,by simp[mapM_cons,kl,hrun]⟩
 | .cell c t::rs,ts,h,K,hK=>by
  simp only[ep]at h
  split at h
  ·rename_i d n hu hn
   split at h
   ·rename_i h1
    obtain⟨ts',h',rfl⟩:=Option.map_eq_some_iff.1 h
    simp only[retX]at hK
    obtain⟨ad,r,v,hp,hk,hr,hld⟩:=mV hu hn h1 rfl hS (hE c) hK
    obtain⟨xs,vs,hk,hrs,hrun⟩:=mm hS hE h' hk
    refine⟨r::xs,v::vs,hk,by simp only[RepL];exact⟨_,_,rfl,hr,hrs⟩,?_⟩
    simp only[mapM_cons,kl,hp,Sem.run_bind,asAddr,Sem.run_pure,Result.andThen_ok,hld w (Same.refl w),hrun]
   ·cases h
  ·cases h
def dC:List Value->Value
 |[v]=>v
 |vs=>.tuple vs.toArray
theorem nE {fn:Func} {tmps:Array Value} {P:Program} {w:World} {vs:List Value} (h1:(fn.results.toList.mapM (kl tmps)).run P w= .ok vs w):
  (results fn tmps).run P w= .ok (dC vs) w:=by
 have h2:results fn tmps=(do
   let vs ←fn.results.mapM (kl tmps)
   pure (if h:vs.size=1 then vs[0]else .tuple vs)):=rfl
 rw[h2,Array.mapM_eq_mapM_toList,map_eq_pure_bind,bind_assoc,Sem.run_bind,h1]
 match vs with
 |[]=>simp[dC]
 |[t]=>simp[dC]
 |t::t'::ts=>simp[dC]
theorem mH {τ:Store} {w:World} {xs:List AV} {vs:List Value} (h:RepL τ w xs vs):Rep τ w (cu xs) (dC vs):=by
 match xs,vs with
 |[],[]=>simp only[cu,Rep];exact⟨_,rfl,h⟩
 |[x],[v]=>simp only[cu,dC];simp only[RepL]at h;obtain⟨u,us,e,hr,_⟩:=h;cases e;exact hr
 |x::y::xs,u::v::vs=>simp only[cu,Rep];exact⟨_,rfl,h⟩
 |[],v::vs=>simp[RepL]at h
 |[x],[]=>simp[RepL]at h
 |[x],u::v::vs=>simp[RepL]at h
 |x::y::xs,[]=>simp[RepL]at h
 |x::y::xs,[v]=>
  simp only[RepL]at h
  obtain⟨u,us,e,_,u',us',e',_⟩:=h
  cases e
  cases e'
theorem ag.intro {k:FuncId} {fn:Func} {c:Code} {s:SCode} {keep:Nat->List Nat×Bool} {args:List AV} {σ:Store} {R:AV->Store->Prop} {ts:List (Nat×Option (Bool×Nat))}
  (hf:P.funcs[k]? =some fn) (hn:(fn.name== "runtime.NumGoroutine")=false) (hb:fn.body=some c) (hr:ep P fn.results.toList=some ts)
  (ht:trans P fn.ntmps keep c=some s) (h:swp G P s (retQ ts R) (cL 0 args) σ):ag G P k args σ R:=by
 refine⟨⟨fn,hf,hn,by rw[hb];rfl⟩,λρ w vs hS hA=>calls_of_wp hf hb ?_⟩
 have st:St G ρ w σ fn.ntmps (cL 0 args) σ {tmps:=vs++Array.replicate (fn.ntmps-vs.size) undef,defers:=[]} w:=
  ⟨hS,Ev.refl σ w,pe _ hA,by simp;omega,rfl⟩
 refine swp_sound c s ht _ _ ?_ _ _ _ _ h st
 have fin:∀env σ' a w',(retX ts env σ' λxs=>RET (cu xs) σ' R)->St G ρ w σ fn.ntmps env σ' a w'->
   a.defers=[]/\∃v,(results fn a.tmps).run P w'= .ok v w'/\(∃v_1 r σ'_1,Ending.returned v=Ending.returned v_1/\R r σ'_1/\Sat G (σ'_1++ρ) w'/\Ev σ w σ'_1 w'/\Rep (σ'_1++ρ) w' r v_1):=by
  intro env σ' a w' hq st
  obtain⟨xs,vs',⟨r',σ2,hle,hsub,hR⟩,hrep,hrun⟩:=mm st.sat st.env hr hq
  refine⟨st.defers,_,nE hrun,_,r',σ2,rfl,hR,st.sat.subN hsub,st.ev.trans (Ev.of_sub hsub.1 _),?_⟩
  exact hle.rep (Rep.ev (Ev.of_sub hsub.1 w') _ _ (mH hrep))
 intro e env σ' a w' hq st
 cases e with
 |normal=>exact fin _ _ _ _ hq st
 |ret=>exact fin _ _ _ _ hq st
 |_=>exact hq.elim
end
/-! ### slots still read -/
def insN (n:Nat):List Nat->List Nat
 |[]=>[n]
 |m::l=>if n<m then n::m::l else if n==m then m::l else m::insN n l
def uniN (xs ys:List Nat):List Nat:=xs.foldr insN ys
def delN (d:Option Nat) (l:List Nat):List Nat:=match d with
 |none=>l
 |some d=>l.filter λm=>!(m==d)
def opdR:Operand->List Nat
 | .tmp t=>[t]
 |_=>[]
def opdsR (xs:List Operand):List Nat:=xs.flatMap opdR
def opR (op:Op):List Nat:=opdsR op.operands.toList
def opersR (ops:Array Oper):List Oper->List Nat->List Nat
 |[],l=>l
 |o::rest,l=>uniN (opR o.op++(match o.guard with
  |none=>[]
  |some (j,_)=>(((ops[j]?).bind (·.dst)).map λd=>[d]).getD [])) (delN o.dst (opersR ops rest l))
def exitR (es:List (Nat×List Nat)) (id:Nat):List Nat:=((es.find? λp=>p.1==id).map (·.2)).getD []
def jr (ret:List Nat):Code->List (Nat×List Nat)->List Nat->List Nat×List (Nat×List Nat)
 | .skip,_,l=>(l,[])
 | .region id ops _,_,l=>(opersR ops ops.toList l,[(id,l)])
 | .seq a b,es,l=>
  let rb:=jr ret b es l
  let ra:=jr ret a es rb.1
  (ra.1,ra.2++rb.2)
 | .cond c a b,es,l=>
  let ra:=jr ret a es l
  let rb:=jr ret b es l
  (uniN (opdR c) (uniN ra.1 rb.1),ra.2++rb.2)
 | .block id a,es,l=>
  let r:=jr ret a ((id,l)::es) l
  (r.1,(id+1000000,l)::r.2)
 | .loop a,es,_=>
  let r:=jr ret a es []
  jr ret a es r.1
 | .exit id,es,_=>(exitR es id,[])
 | .ret,_,_=>(ret,[])
 |_,_,l=>(l,[])
def keepOf (g:List Nat) (ks:List (Nat×List Nat)) (id:Nat):List Nat×Bool:=(exitR ks id,g.contains id)
def ku (P:Program) (g:List Nat) (fn:Func):Option (List (Nat×Option (Bool×Nat))×SCode):=
 if fn.name== "runtime.NumGoroutine" then none else
 match fn.body,ep P fn.results.toList with
 |some c,some ts=>(trans P fn.ntmps (keepOf g (jr (ts.foldr (λp l=>insN p.1 l) []) c [] (ts.foldr (λp l=>insN p.1 l) [])).2) c).map (ts,·)
 |_,_=>none
def fnAt (P:Program) (k:Nat) (g:List Nat):Option (List (Nat×Option (Bool×Nat))×SCode):=(P.funcs[k]?).bind (ku P g)
theorem ag.at {G:Glob} {P:Program} {k:Nat} {g:List Nat} {ts:List (Nat×Option (Bool×Nat))} {s:SCode} {args:List AV} {σ:Store} {R:AV->Store->Prop} (hk:fnAt P k g=some (ts,s))
  (h:swp G P s (retQ ts R) (cL 0 args) σ):ag G P k args σ R:=by
 unfold fnAt at hk
 cases hf:P.funcs[k]? with
 |none=>rw[hf]at hk;cases hk
 |some fn=>
  rw[hf]at hk
  have hk:ku P g fn=some (ts,s):=hk
  unfold ku at hk
  split at hk
  ·cases hk
  ·rename_i hn
   split at hk
   ·rename_i c ts' hb hr
    obtain⟨s',hs,he⟩:=Option.map_eq_some_iff.1 hk
    cases he
    exact ag.intro hf (by simpa using hn) hb hr hs h
   ·cases hk
section
variable {G:Glob} {P:Program} {env:Env} {σ:Store} {R:AV->Store->Prop} {KL:List AV->Prop} {tL:Tag KL}
def RX (ts:List (Nat×Option (Bool×Nat))) (env:Env) (σ:Store) (K:List AV->Prop) (_t:Tag K):Prop:=retX ts env σ K
theorem retQ_ret {ts:List (Nat×Option (Bool×Nat))}:retQ ts R .ret env σ=RX ts env σ (λxs=>RET (cu xs) σ R) ⟨⟩:=(rfl)
theorem ob {ts:List (Nat×Option (Bool×Nat))}:retQ ts R .normal env σ=RX ts env σ (λxs=>RET (cu xs) σ R) ⟨⟩:=(rfl)
theorem RX_nil:RX [] env σ KL tL=KL []:=(rfl)
theorem RX_tmp {t:Nat} {rs:List (Nat×Option (Bool×Nat))}:RX ((t,none)::rs) env σ KL tL=RX rs env σ (λxs=>KL (env.get t::xs)) ⟨⟩:=(rfl)
theorem RX_cell {t n:Nat} {agg:Bool} {rs:List (Nat×Option (Bool×Nat))}:
  RX ((t,some (agg,n))::rs) env σ KL tL=kV σ agg n (env.get t) (λx=>RX rs env σ (λxs=>KL (x::xs)) ⟨⟩) ⟨⟩:=(rfl)
theorem one_nil:cu []= .tup []:=(rfl)
theorem one_one {x:AV}:cu [x]=x:=(rfl)
theorem one_two {x y:AV} {xs:List AV}:cu (x::y::xs)= .tup (x::y::xs):=(rfl)
theorem oB {i:Nat}:cL i []=[]:=(rfl)
theorem mU {i:Nat} {x:AV} {xs:List AV}:cL i (x::xs)=(i,x)::cL (i+1) xs:=(rfl)
theorem ag.w {k:Nat} {g:List Nat} {ts:List (Nat×Option (Bool×Nat))} {s:SCode} {args:List AV} (hk:fnAt P k g=some (ts,s))
  (h:W G P s (retQ ts R) (cL 0 args) σ ⟨⟩):ag G P k args σ R:=ag.at hk h
theorem Pure.w {k:Nat} {g:List Nat} {ts:List (Nat×Option (Bool×Nat))} {s:SCode} {args:List AV} {r:AV} (hk:fnAt P k g=some (ts,s))
  (h:∀R:AV->Store->Prop,(∀x σ,AVle x r->RET x σ R)->W G P s (retQ ts R) (cL 0 args) [] ⟨⟩):Pure G P k args r:=
 ag.at (R:=λx σ=>x=r/\σ=[]) hk (h (λx σ=>x=r/\σ=[]) λ_ σ hx=>⟨r,[],hx,⟨(λp hp=>by cases hp),λ_=>nodup_nil⟩,⟨rfl,rfl⟩⟩)
theorem RET.eq {x:AV} {r:AV} {R:AV->Store->Prop} {σ:Store} (hR:∀x σ,AVle x r->RET x σ R) (h:x=r):RET x σ R:=hR _ _ (h ▸ AVle.rfl' _)
theorem RQ {r:AV} {R:AV->Store->Prop} (hR:∀x σ,AVle x r->RET x σ R) {σ:Store}:RET r σ R:=hR _ _ (.inl (.inl rfl))
end
section
variable {G:Glob} {P:Program}
theorem Ev.below {w w':World} (h:Below w.heap.size w w'):Ev [] w [] w' where
 os:=h.os
 tape:=h.tape
 output:=h.output
 size:=h.size
 block b hb _:=⟨h.block b hb,by simp[Store.keys]⟩
 shape b s hs:=by
  have hb:b<w.heap.size:=by
   unfold World.shape? at hs
   cases hx:w.heap[b]? with
   |none=>simp[hx]at hs
   |some o=>exact(Array.getElem?_eq_some_iff.1 hx).1
  unfold World.shape? at*
  rw[h.block b hb]
  exact hs
 cell a v hv _:=by
  have hb:=fv hv
  refine⟨?_,λm=>by obtain⟨x,hx,_⟩:=m;simp at hx⟩
  rw[World.cell?_of_block (w:=w) (h.block a.block hb)]
  exact hv
theorem Sat.below {ρ:Store} {w w':World} (hS:Sat G ρ w) (h:Below w.heap.size w w'):Sat G ρ w':=by
 have:=Sat.step (σ:=[]) (σ':=[]) (ρ:=ρ) (by simpa using hS) (Ev.below h) (by simp[Store.keys]) (by simp[Store.keys]) (by simp)
 simpa using this
theorem Pure.of_calls {k:FuncId} {fn:Func} {args:List AV} {r:AV} (hf:P.funcs[k]? =some fn) (hn:(fn.name== "runtime.NumGoroutine")=false) (hb:fn.body.isNone=false)
  (h:∀(τ:Store) (w:World) (vs:Array Value),Sat G τ w->RepL τ w args vs.toList->∃v,(∀τ' w',Rep τ' w' r v)/\Calls P k vs w λe w'=>e= .returned v/\Below w.heap.size w w'):Pure G P k args r:=
 ⟨⟨fn,hf,hn,hb⟩,λρ w vs hS hA=>by
  obtain⟨v,hr,hc⟩:=h _ w vs hS hA
  refine hc.mono ?_
  rintro e w' ⟨rfl,hB⟩
  exact⟨v,r,[],rfl,⟨rfl,rfl⟩,by simpa using Sat.below (by simpa using hS) hB,Ev.below hB,hr _ _⟩⟩
theorem ji {τ:Store} {w:World} {x y:AV} {vs:Array Value} (h:RepL τ w [x,y] vs.toList):∃u v,vs=#[u,v]/\Rep τ w x u/\Rep τ w y v:=by
 simp only[RepL]at h
 obtain⟨u,us,h1,h2,v,vs',h3,h4,h5⟩:=h
 subst h5 h3
 exact⟨u,v,by apply Array.ext';simpa using h1,h2,h4⟩
theorem vs_one {τ:Store} {w:World} {x:AV} {vs:Array Value} (h:RepL τ w [x] vs.toList):∃u,vs=#[u]/\Rep τ w x u:=by
 simp only[RepL]at h
 obtain⟨u,us,h1,h2,h5⟩:=h
 subst h5
 exact⟨u,by apply Array.ext';simpa using h1,h2⟩
theorem cW {op:Op} {env:Env} {σ:Store} {K:AV->Store->Prop} (r:AV)
  (h:∀(ρ:Store) (w:World) (a:Act) (o:Oper),o.op=op->Sat G (σ++ρ) w->(∀j,Rep (σ++ρ) w (env.get j) (a.tmps.getD j undef))->∃v,(execOp a.eval o).run P w= .ok (.value v) w/\Rep (σ++ρ) w r v) (hk:K r σ):RAW G P op env σ K ⟨⟩:=by
 intro ρ w a o ho hS hE
 obtain⟨v,hr,hv⟩:=h ρ w a o ho hS hE
 exact⟨v,w,r,σ,.inl hr,hk,hS,Ev.refl σ w,hv⟩
end
def StLe:Store->Store->Prop
 |[],[]=>True
 |(b,.cells e cs)::σ,(b',.cells e' cs')::σ'=>b=b'/\e=e'/\bc cs cs'/\StLe σ σ'
 |(b,x)::σ,(b',x')::σ'=>b=b'/\x=x'/\StLe σ σ'
 |_,_=>False
theorem StLe.keys:∀{σ σ':Store},StLe σ σ'->σ'.keys=σ.keys
 |[],[],_=>rfl
 |(b,.cells e cs)::σ,(b',.cells e' cs')::σ',h=>by
  obtain⟨rfl,_,_,h⟩:=h
  have:=StLe.keys h
  simp only[Store.keys]at this
  simp[Store.keys,this]
 |(b,.tok e k)::σ,(b',x')::σ',h=>by
  have h:b=b'/\_/\StLe σ σ':=h
  have:=StLe.keys h.2.2
  simp only[Store.keys]at this
  simp[Store.keys,this,h.1]
 |(b,.map es)::σ,(b',x')::σ',h=>by
  have h:b=b'/\_/\StLe σ σ':=h
  have:=StLe.keys h.2.2
  simp only[Store.keys]at this
  simp[Store.keys,this,h.1]
 |(b,.cells e cs)::σ,(b',.tok _ _)::σ',h=>by
  have h:b=b'/\_/\StLe σ σ':=h
  cases h.2.1
 |(b,.cells e cs)::σ,(b',.map _)::σ',h=>by
  have h:b=b'/\_/\StLe σ σ':=h
  cases h.2.1
 |[],_::_,h=>h.elim
 |(_,.cells _ _)::_,[],h=>h.elim
 |(_,.tok _ _)::_,[],h=>h.elim
 |(_,.map _)::_,[],h=>h.elim
theorem StLe.back:∀{σ σ':Store},StLe σ σ'->∀{b:Nat} {x':AObj},(b,x')∈σ'->∃x,(b,x)∈σ/\(x=x'\/∃e cs cs',x= .cells e cs/\x'= .cells e cs'/\bc cs cs')
 |[],[],_,b,x',h=>by simp at h
 |(b,.cells e cs)::σ,(b',.cells e' cs')::σ',h,c,x',hm=>by
  obtain⟨rfl,rfl,hl,h⟩:=h
  rcases mem_cons.1 hm with e1|hm
  ·cases e1
   exact⟨_,mem_cons_self ..,.inr ⟨_,_,_,rfl,rfl,hl⟩⟩
  ·obtain⟨x,hx,hr⟩:=StLe.back h hm
   exact⟨x,mem_cons_of_mem _ hx,hr⟩
 |(b,.tok e k)::σ,(b',y)::σ',h,c,x',hm=>by
  have h2:b=b'/\_=y/\StLe σ σ':=h
  obtain⟨rfl,rfl,h3⟩:=h2
  rcases mem_cons.1 hm with e1|hm
  ·cases e1;exact⟨_,mem_cons_self ..,.inl rfl⟩
  ·obtain⟨x,hx,hr⟩:=StLe.back h3 hm
   exact⟨x,mem_cons_of_mem _ hx,hr⟩
 |(b,.map es)::σ,(b',y)::σ',h,c,x',hm=>by
  have h2:b=b'/\_=y/\StLe σ σ':=h
  obtain⟨rfl,rfl,h3⟩:=h2
  rcases mem_cons.1 hm with e1|hm
  ·cases e1;exact⟨_,mem_cons_self ..,.inl rfl⟩
  ·obtain⟨x,hx,hr⟩:=StLe.back h3 hm
   exact⟨x,mem_cons_of_mem _ hx,hr⟩
 |(b,.cells e cs)::σ,(b',.tok _ _)::σ',h,_,_,_=>by
  have h:b=b'/\_/\StLe σ σ':=h
  cases h.2.1
 |(b,.cells e cs)::σ,(b',.map _)::σ',h,_,_,_=>by
  have h:b=b'/\_/\StLe σ σ':=h
  cases h.2.1
 |[],_::_,h,_,_,_=>h.elim
 |(_,.cells _ _)::_,[],h,_,_,_=>h.elim
 |(_,.tok _ _)::_,[],h,_,_,_=>h.elim
 |(_,.map _)::_,[],h,_,_,_=>h.elim
theorem StLe.mut {σ σ':Store} (h:StLe σ σ') {b o:Nat} (m:Mut σ' b o):Mut σ b o:=by
 obtain⟨x',hx',hm⟩:=m
 obtain⟨x,hx,rfl|⟨e,cs,cs',rfl,rfl,_⟩⟩:=h.back hx'
 ·exact⟨_,hx,hm⟩
 ·exact⟨_,hx,trivial⟩
theorem StLe.ev {σ σ':Store} (h:StLe σ σ') (w:World):Ev σ w σ' w:=
 ⟨rfl,rfl,rfl,Nat.le_refl _,λ_ _ hn=>⟨rfl,λhb=>hn (by rw[h.keys]at hb;exact hb)⟩,λ_ _ h=>h,λ_ _ hv hm=>⟨hv,λm=>hm (h.mut m)⟩⟩
theorem StLe.sat {G:Glob} {σ σ' ρ:Store} {w:World} (h:StLe σ σ') (hS:Sat G (σ++ρ) w):Sat G (σ'++ρ) w:=by
 refine Sat.step hS (h.ev w) ?_ (λb hb=>.inl (by rw[h.keys]at hb;exact hb)) (λb x' hx'=>?_)
 ·have:=hS.nodup
  rw[az]at this
  rw[h.keys]
  exact(nodup_append.1 this).1
 ·obtain⟨x,hx,hr⟩:=h.back hx'
  have ho:=hS.obj b x (mem_append.2 (.inl hx))
  have ev:∀{xs us},RepL (σ++ρ) w xs us->RepL (σ'++ρ) w xs us:=λhr=>RepL.ev (h.ev w) _ _ hr
  rcases hr with rfl|⟨e,cs,cs',rfl,rfl,hl⟩
  ·cases x with
   |cells e cs=>obtain⟨vs,h1,h2,h3⟩:=ho;exact⟨vs,h1,h2,ev h3⟩
   |tok e k=>exact ho
   |map es=>obtain⟨ents,c,h1,h2,h3⟩:=ho;exact⟨ents,c,h1,h2,ev h3⟩
  ·obtain⟨vs,h1,h2,h3⟩:=ho
   exact⟨vs,h1,h2,hl.rep (ev h3)⟩
theorem Weak.st {G:Glob} {env:Env} {σ σ':Store} (hs:StLe σ σ'):Weak G env σ env σ':=λρ w _ hS hE=>⟨hs.sat hS,hs.ev w,λj=>Rep.ev (hs.ev w) _ _ (hE j)⟩
end Go.Av
