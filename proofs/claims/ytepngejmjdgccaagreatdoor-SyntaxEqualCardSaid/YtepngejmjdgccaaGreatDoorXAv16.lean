/-
  ABSTRACT VALUES, 16: a region that draws; code; a function.
-/
import Derived.Test.YtepngejmjdgccaaGreatDoorXAv15b
namespace Go.Av
open Go Go.RowKit
set_option linter.unusedSimpArgs false
set_option linter.unusedVariables false
section
variable {G:Glob} {P:Program} {ρ:Store} {w0:World} {σ0:Store} {n:Nat}
theorem qrun_sound {ro:Nat->Bool} {ops:Array Oper} {Q:Act->Prop} {K:Env->Prop} {σ:Store} {w:World}
  (hK:∀env a,K env->(∀j,Rep (σ++ρ) w (env.get j) (a.tmps.getD j undef))->n<=a.tmps.size->a.defers=[]->Q a) (hS:Sat G (σ++ρ) w):
  ∀(l:List Oper) (sl:List SOper) (env:Env) (a:Act),transOps P n ro ops l=some sl->qrun G P sl env σ K->(∀j,Rep (σ++ρ) w (env.get j) (a.tmps.getD j undef))->n<=a.tmps.size->a.defers=[]->
   wpQuiet P ops (QC G σ ρ w) Q l a
 |[],sl,env,a,ht,h,hE,hs,hd=>by cases ht;exact hK _ _ h hE hs hd
 |o::l,sl,env,a,ht,h,hE,hs,hd=>by
  obtain⟨so,g,rest,e1,e2,e3,e4,rfl⟩:=transOps_cons ht
  have go:∀env:Env,aqc G P so env σ (λr=>qrun G P rest (env.put o.dst r) σ K)->(∀j,Rep (σ++ρ) w (env.get j) (a.tmps.getD j undef))->o.quiet P a (QC G σ ρ w) (wpQuiet P ops (QC G σ ρ w) Q l):=by
   intro env h hE
   have e1:=e1.resolve_right λe=>by
    rcases e with e|⟨_,_,_,_,_,e⟩<;>(rw[e]at h;exact h)
   obtain⟨r,u,hk,hr,hq⟩:=aqc_sound e1 hS hE h
   exact⟨u,hq,qrun_sound hK hS l rest _ _ e4 hk (put_env hE e3 hs hr) (by rw[put_size];exact hs) (by rw[put_defers];exact hd)⟩
  have skip:∀env:Env,qrun G P rest (env.put o.dst undefAV) σ K->(∀j,Rep (σ++ρ) w (env.get j) (a.tmps.getD j undef))->wpQuiet P ops (QC G σ ρ w) Q l (a.put o.dst undef):=λenv h hE=>
   qrun_sound hK hS l rest _ _ e4 h (put_env hE e3 hs (rep_undef _ w)) (by rw[put_size];exact hs) (by rw[put_defers];exact hd)
  cases hg:o.guard with
  |none=>
   rw[hg]at e2
   cases e2
   simp only[wpQuiet]
   rw[if_pos (wanted_none hg)]
   exact go env h hE
  |some jb=>
   obtain⟨j,want⟩:=jb
   rw[hg]at e2
   obtain⟨d,hd',rfl⟩:=transGuard_some e2
   have h:gd (env.get d) want (aqc G P so (env.set d (.bool want)) σ λr=>qrun G P rest ((env.set d (.bool want)).put o.dst r) σ K)
    (qrun G P rest ((env.set d (.bool (!want))).put o.dst undefAV) σ K) (qrun G P rest (env.put o.dst undefAV) σ K):=h
   unfold gd at h
   simp only[wpQuiet]
   split at h
   ·rename_i b hb
    rw[wanted_bool hg hd' hE hb]
    by_cases hbw:b=want
    ·subst hbw
     simp only[BEq.rfl,if_true]
     exact go _ (h.1 rfl) (set_env hE hb)
    ·have hbn:b= !want:=by cases b<;>cases want<;>simp_all
     have:(b==want)=false:=by simpa using hbw
     simp only[this]
     exact skip _ (h.2 hbn) (set_env hE (by rw[hb,hbn]))
   ·rename_i hb
    rw[wanted_undef hg hd' hE hb]
    exact skip _ h hE
   ·exact h.elim
theorem drawL_sound {ro:Nat->Bool} {ops:Array Oper} {Q:Exit->Act->World->Prop} {K:Env->Store->Prop} (hsel:Region.noSelect ops=true) (hQ:∀c a w,¬Q (.panic c) a w)
  (hK:∀env σ a w,K env σ->St G ρ w0 σ0 n env σ a w->Q .normal a w):
  ∀(l:List Oper) (sl:List SOper) (k:Nat) (listed:Array Bool) (env:Env) (σ:Store) (a:Act) (w:World),(∀j,l[j]? =ops[k+j]?)->transOps P n ro ops l=some sl->drawSeq ops sl k listed=true->
   srun G P sl env σ K->St G ρ w0 σ0 n env σ a w->wpAny P .any ops Q l.length listed a w
 |[],sl,k,listed,env,σ,a,w,hl,ht,hd,h,st=>by
  cases ht
  simp only[drawSeq,List.isEmpty_iff]at hd
  exact⟨hd,hK _ _ _ _ h st⟩
 |o::l,sl,k,listed,env,σ,a,w,hl,ht,hd,h,st=>by
  obtain⟨so,g,rest,e1,e2,e3,e4,rfl⟩:=transOps_cons ht
  have hk0:ops[k]? =some o:=by have:=hl 0;simpa using this.symm
  have hl':∀j,l[j]? =ops[k+1+j]? :=λj=>by have:=hl (j+1);simpa[Nat.add_assoc,Nat.add_comm 1 j]using this
  simp only[drawSeq,Bool.and_eq_true]at hd
  obtain⟨hd1,hd2⟩:=hd
  have next:∀env σ a w,srun G P rest env σ K->St G ρ w0 σ0 n env σ a w->wpAny P .any ops Q l.length (listed.setIfInBounds k true) a w:=
   λenv σ a w h st=>drawL_sound hsel hQ hK l rest (k+1) _ env σ a w hl' e4 hd2 h st
  have go:∀env,aop G P so env σ (λr σ'=>srun G P rest (env.put o.dst r) σ' K)->St G ρ w0 σ0 n env σ a w->Region.wanted o (yielded ops a.tmps)=true->wpAny P .any ops Q (l.length+1) listed a w:=by
   intro env h st hw
   rcases Bool.or_eq_true _ _ ▸ hd1 with hs|hs
   ·simp only[Bool.and_eq_true]at hs
    obtain⟨hs1,hs2,hs3⟩:=hs
    have e1:transOp P o.op=some so:=e1.resolve_right λe=>by
     rcases e with e|⟨_,_,_,_,_,e⟩<;>(rw[e]at hs1;exact absurd hs1 (by simp[SOp.slot]))
    rw[aop_slot hs1]at h
    obtain⟨r,u,hk,hr,hrun⟩:=aq_sound rfl e1 rfl st.sat st.env h
    refine wpAny_take hk0 hsel hs2 hs3 (λc a w h=>(hQ _ _ _ h).elim) (v:=u) (.inl ⟨hw,λw'=>hrun w' (λc=>by rw[notLoad e1 hs1]at c;cases c)⟩) ?_
    exact next _ _ _ _ hk (st.put e3 st.sat (Ev.refl σ w) hr)
   ·have hs:Region.ready .any ops listed=[k]:=by simpa using hs
    refine wpAny_all hs (by simp) λi hi=>?_
    have hi:i=k:=by simpa using hi
    subst hi
    unfold wpOp
    simp only[hk0]
    rw[if_pos hw]
    refine .inl ?_
    refine e1.elim (λe1=>aop_sound rfl e1 st.sat st.env h λv r σ' w' hk hs he hr=>next _ _ _ _ hk (st.put e3 hs he hr)) λe=>?_
    rcases e with e|⟨t,x,m,ho,hm,e⟩
    rotate_left
    ·rw[e]at h
     exact e_boxR (n:=m) (K:=λr σ'=>srun G P rest (env.put o.dst r) σ' K) ho st.sat st.env h λv r σ' w' hk hs he hr=>next _ _ _ _ hk (st.put e3 hs he hr)
    rw[e]at h
    obtain⟨v,w',r,σ',hr,hk,hs,he,hrep⟩:=h ρ w a o rfl st.sat st.env
    rcases hr with hr|⟨hr,rfl⟩
    ·exact wp_of_value hr (next _ _ _ _ hk (st.put e3 hs he hrep))
    ·exact wp_of_skip hr (next _ _ _ _ hk (st.put e3 hs he hrep))
  have skip:∀env,srun G P rest (env.put o.dst undefAV) σ K->St G ρ w0 σ0 n env σ a w->Region.wanted o (yielded ops a.tmps)=false->wpAny P .any ops Q (l.length+1) listed a w:=by
   intro env h st hw
   have hn:=next _ _ _ _ h (st.put e3 st.sat (Ev.refl σ w) (rep_undef _ w))
   rcases Bool.or_eq_true _ _ ▸ hd1 with hs|hs
   ·simp only[Bool.and_eq_true]at hs
    exact wpAny_take hk0 hsel hs.2.1 hs.2.2 (λc a w h=>(hQ _ _ _ h).elim) (v:=undef) (.inr ⟨hw,rfl⟩) hn
   ·have hs:Region.ready .any ops listed=[k]:=by simpa using hs
    refine wpAny_all hs (by simp) λi hi=>?_
    have hi:i=k:=by simpa using hi
    subst hi
    unfold wpOp
    simp only[hk0,hw]
    exact hn
  cases hg:o.guard with
  |none=>
   rw[hg]at e2
   cases e2
   exact go env h st (wanted_none hg)
  |some jb=>
   obtain⟨j,want⟩:=jb
   rw[hg]at e2
   obtain⟨d,hd,rfl⟩:=transGuard_some e2
   have h:gd (env.get d) want (aop G P so (env.set d (.bool want)) σ λr σ'=>srun G P rest ((env.set d (.bool want)).put o.dst r) σ' K)
    (srun G P rest ((env.set d (.bool (!want))).put o.dst undefAV) σ K) (srun G P rest (env.put o.dst undefAV) σ K):=h
   unfold gd at h
   split at h
   ·rename_i b hb
    by_cases hbw:b=want
    ·subst hbw
     exact go _ (h.1 rfl) (st.set hb) (by rw[wanted_bool hg hd st.env hb];simp)
    ·have hbn:b= !want:=by cases b<;>cases want<;>simp_all
     exact skip _ (h.2 hbn) (st.set (by rw[hb,hbn])) (by rw[wanted_bool hg hd st.env hb];simpa using hbw)
   ·rename_i hb
    exact skip _ h st (wanted_undef hg hd st.env hb)
   ·exact h.elim
theorem swp_sound {keep:Nat->List Nat×Bool}:∀(c:Code) (s:SCode) (_:trans P n keep c=some s) (QA:Exit->Env->Store->Prop) (Q:Exit->Act->World->Prop)
  (_:∀e env σ a w,QA e env σ->St G ρ w0 σ0 n env σ a w->Q e a w) (env:Env) (σ:Store) (a:Act) (w:World),swp G P s QA env σ->St G ρ w0 σ0 n env σ a w->c.wp P Q a w:=by
 intro c
 induction c with
 |skip=>intro s ht QA Q hQ env σ a w h st;cases ht;exact wp_skip (hQ _ _ _ _ _ h st)
 |exit id=>intro s ht QA Q hQ env σ a w h st;cases ht;exact wp_exit (hQ _ _ _ _ _ h st)
 |ret=>intro s ht QA Q hQ env σ a w h st;cases ht;exact wp_ret (hQ _ _ _ _ _ h st)
 |region id ops draws=>
  intro s ht QA Q hQ env σ a w h st
  cases draws with
  |false=>
   have ht:((transOps P n (λd=>(keep (2000000+d)).2) ops ops.toList).map λsos=>if (keep id).2 then SCode.ghost sos (keep id).1 else SCode.region sos (keep id).1)=some s:=ht
   obtain⟨sos,h1,rfl⟩:=Option.map_eq_some_iff.1 ht
   by_cases hk:(keep id).2=true
   ·rw[if_pos hk]at h
    have h:srun G P sos env σ λenv σ=>∃env' σ',Weak G (env.keep (keep id).1) σ env' σ'/\QA .normal env' σ':=h
    refine wp_region_list (srun_sound ?_ _ _ _ _ _ _ h1 h st)
    rintro env σ a w ⟨env',σ',hw,hq⟩ st
    exact hQ _ _ _ _ _ hq ((st.keep _).weak hw)
   ·rw[if_neg hk]at h
    have h:srun G P sos env σ λenv σ=>QA .normal (env.keep (keep id).1) σ:=h
    refine wp_region_list (srun_sound ?_ _ _ _ _ _ _ h1 h st)
    intro env σ a w hq st
    exact hQ _ _ _ _ _ hq (st.keep _)
  |true=>
   have ht:((transOps P n (λd=>(keep (2000000+d)).2) ops ops.toList).map λsos=>
    if P.follows .mixedOrders&&(Region.noSelect ops&&drawSeq ops sos 0 (Array.replicate ops.size false))then SCode.drawL sos (keep id).1
    else match (if P.follows .mixedOrders&&Region.noSelect ops then drawH P n (λd=>(keep (2000000+d)).2) ops ops.size (Array.replicate ops.size false) (rootsOf (λd=>(keep (2000000+d)).2) ops.toList)else none)with
     |some sl=>.drawL sl (keep id).1
     |none=>if (P.follows .mixedOrders&&Region.lexB .any ops)&&sos.all (λso=>quietOp so.op)then .draw sos (keep id).1 else
      match (if P.follows .mixedOrders&&Region.noSelect ops then drawD P n (λd=>(keep (2000000+d)).2) ops ops.size (Array.replicate ops.size false) (rootsOf (λd=>(keep (2000000+d)).2) ops.toList)else none)with
      |some t=>.drawT t (keep id).1
      |none=>.bad)=some s:=ht
   obtain⟨sos,h1,hs⟩:=Option.map_eq_some_iff.1 ht
   have hev:Ev σ w σ {w with drawn:=w.drawn+1}:=Ev.drew
   split at hs
   ·rename_i hc
    subst hs
    simp only[Bool.and_eq_true]at hc
    have h:srun G P sos env σ λenv σ=>QA .normal (env.keep (keep id).1) σ:=h
    have st':St G ρ w0 σ0 n env σ a {w with drawn:=w.drawn+1}:=⟨st.sat.step hev st.sat.nodup_left (λb hb=>.inl hb) (λb x hx=>(st.sat.obj b x (List.mem_append.2 (.inl hx))).keep hev rfl),st.ev.trans hev,λj=>Rep.ev hev _ _ (st.env j),st.size,st.defers⟩
    refine wp_mono (Q:=λe a w=>(∀c,e≠ .panic c)/\Q e a w) (wp_region_any hc.1 ?_) (λ_ _ _ h=>h.2)
    have:=drawL_sound (Q:=λe a w=>(∀c,e≠ .panic c)/\Q e a w) (K:=λenv σ=>QA .normal (env.keep (keep id).1) σ) hc.2.1 (λc a w h=>h.1 c rfl)
     (λenv σ a w hq st=>⟨(by intro c h;cases h),hQ _ _ _ _ _ hq (st.keep _)⟩) ops.toList sos 0 (Array.replicate ops.size false) env σ a _ (by simp) h1 hc.2.2 h st'
    simpa using this
   ·split at hs
    ·rename_i sl hsl
     subst hs
     split at hsl
     rotate_left
     ·cases hsl
     rename_i hc
     simp only[Bool.and_eq_true]at hc
     have h:srun G P sl env σ λenv σ=>QA .normal (env.keep (keep id).1) σ:=h
     have st':St G ρ w0 σ0 n env σ a {w with drawn:=w.drawn+1}:=⟨st.sat.step hev st.sat.nodup_left (λb hb=>.inl hb) (λb x hx=>(st.sat.obj b x (List.mem_append.2 (.inl hx))).keep hev rfl),st.ev.trans hev,λj=>Rep.ev hev _ _ (st.env j),st.size,st.defers⟩
     have st1:St G ρ {w with drawn:=w.drawn+1} σ n env σ a {w with drawn:=w.drawn+1}:={st' with ev:=Ev.refl _ _}
     refine wp_mono (Q:=λe a w=>(∀c,e≠ .panic c)/\Q e a w) (wp_region_held (S:=Keeps σ {w with drawn:=w.drawn+1}) hc.1 ?_) (λ_ _ _ h=>h.2)
     exact drawH_sound (Q:=λe a w=>(∀c,e≠ .panic c)/\Q e a w) (K:=λenv σ=>QA .normal (env.keep (keep id).1) σ) hc.2 (λc a w h=>h.1 c rfl)
      (λenv σ' a w' hq st2=>⟨(by intro c h;cases h),hQ _ _ _ _ _ hq (({st2 with ev:=st'.ev.trans st2.ev}:St G ρ w0 σ0 n env σ' a w').keep _)⟩) st'.sat ops.size _ _ sl env σ a _ hsl h st1 (λj _=>st1.env j)
    split at hs
    ·rename_i hc
     subst hs
     simp only[Bool.and_eq_true]at hc
     have hc:=hc.1
     have h:qrun G P sos env σ λenv=>QA .normal (env.keep (keep id).1) σ:=h
     refine wp_region_quiet (C:=QC G σ ρ w) hc.1 hc.2 ⟨st.sat.step hev st.sat.nodup_left (λb hb=>.inl hb) (λb x hx=>?_),hev,Nat.le_refl _,λ_ _=>rfl⟩ ?_
     ·exact(st.sat.obj b x (List.mem_append.2 (.inl hx))).keep hev rfl
     ·refine qrun_sound (Q:=λa'=>∀w',QC G σ ρ w w'->Q .normal a' w') ?_ st.sat _ _ _ _ h1 h st.env st.size st.defers
      intro env' a' hk hE hs hd w' hC
      have st':St G ρ w0 σ0 n env' σ a' w':=⟨hC.1,st.ev.trans hC.2.1,λj=>Rep.ev hC.2.1 _ _ (hE j),hs,hd⟩
      exact hQ _ _ _ _ _ hk (st'.keep _)
    split at hs
    ·rename_i tr htr
     subst hs
     split at htr
     rotate_left
     ·cases htr
     rename_i hc
     simp only[Bool.and_eq_true]at hc
     have h:trun G P tr env σ λenv σ=>∃env' σ',Weak G (env.keep (keep id).1) σ env' σ'/\QA .normal env' σ':=h
     have st':St G ρ w0 σ0 n env σ a {w with drawn:=w.drawn+1}:=⟨st.sat.step hev st.sat.nodup_left (λb hb=>.inl hb) (λb x hx=>(st.sat.obj b x (List.mem_append.2 (.inl hx))).keep hev rfl),st.ev.trans hev,λj=>Rep.ev hev _ _ (st.env j),st.size,st.defers⟩
     have st1:St G ρ {w with drawn:=w.drawn+1} σ n env σ a {w with drawn:=w.drawn+1}:={st' with ev:=Ev.refl _ _}
     refine wp_mono (Q:=λe a w=>(∀c,e≠ .panic c)/\Q e a w) (wp_region_held (S:=Keeps σ {w with drawn:=w.drawn+1}) hc.1 ?_) (λ_ _ _ h=>h.2)
     exact drawD_sound (Q:=λe a w=>(∀c,e≠ .panic c)/\Q e a w) (K:=λenv σ=>∃env' σ',Weak G (env.keep (keep id).1) σ env' σ'/\QA .normal env' σ') hc.2 (λc a w h=>h.1 c rfl)
      (λenv σ' a w' hq st2=>⟨(by intro c h;cases h),by
       obtain⟨env',σ'',hw,hq⟩:=hq
       exact hQ _ _ _ _ _ hq ((({st2 with ev:=st'.ev.trans st2.ev}:St G ρ w0 σ0 n env σ' a w').keep _).weak hw)⟩) st'.sat ops.size _ _ tr env σ a _ htr h st1 (λj _=>st1.env j)
    ·subst hs;exact h.elim
 |seq x y ihx ihy=>
  intro s ht QA Q hQ env σ a w h st
  simp only[trans]at ht
  split at ht
  ·rename_i sx sy h1 h2
   cases ht
   refine wp_seq (ihx _ h1 _ _ ?_ _ _ _ _ h st)
   intro e env σ a w hq st
   cases e with
   |normal=>exact ihy _ h2 _ _ hQ _ _ _ _ hq st
   |exit id=>exact hQ (.exit id) _ _ _ _ hq st
   |goto l=>exact hQ (.goto l) _ _ _ _ hq st
   |ret=>exact hQ .ret _ _ _ _ hq st
   |panic c=>exact hQ (.panic c) _ _ _ _ hq st
   |outgrown=>exact hQ .outgrown _ _ _ _ hq st
  ·cases ht
 |cond x y z ihy ihz=>
  intro s ht QA Q hQ env σ a w h st
  simp only[trans]at ht
  split at ht
  ·rename_i sx sy h1 h2
   cases ht
   simp only[swp]at h
   split at h
   ·rename_i t he
    have hx:=eval_rep (G:=G) st.sat st.env x
    rw[he]at hx
    simp only[Rep]at hx
    exact wp_cond_split hx (λe=>ihy _ h1 _ _ hQ _ _ _ _ (h.1 e) st) (λe=>ihz _ h2 _ _ hQ _ _ _ _ (h.2 e) st)
   ·exact h.elim
  ·cases ht
 |block id x ih=>
  intro s ht QA Q hQ env σ a w h st
  simp only[trans]at ht
  obtain⟨sx,h1,rfl⟩:=Option.map_eq_some_iff.1 ht
  have h:swp G P sx (onBlock id (onNormal (λenv σ=>QA .normal (env.keep (keep (id+1000000)).1) σ) QA)) env σ:=h
  refine wp_block (ih _ h1 _ _ ?_ _ _ _ _ h st)
  intro e env σ a w hq st
  cases e with
  |normal=>exact hQ .normal _ _ _ _ hq (st.keep _)
  |exit id'=>
   by_cases hid:id'=id
   ·subst hid
    have hq:QA .normal (env.keep (keep (id'+1000000)).1) σ:=by
     have hq:(if id'=id' then QA .normal (env.keep (keep (id'+1000000)).1) σ else QA (.exit id') env σ):=hq
     rwa [if_pos rfl]at hq
    show if id'=id' then Q .normal a w else Q (.exit id') a w
    rw[if_pos rfl];exact hQ _ _ _ _ _ hq (st.keep _)
   ·have hq:QA (.exit id') env σ:=by
     have hq:(if id'=id then QA .normal (env.keep (keep (id+1000000)).1) σ else QA (.exit id') env σ):=hq
     rwa [if_neg hid]at hq
    show if id'=id then Q .normal a w else Q (.exit id') a w
    rw[if_neg hid];exact hQ _ _ _ _ _ hq st
  |goto l=>exact hQ (.goto l) _ _ _ _ hq st
  |ret=>exact hQ .ret _ _ _ _ hq st
  |panic c=>exact hQ (.panic c) _ _ _ _ hq st
  |outgrown=>exact hQ .outgrown _ _ _ _ hq st
 |loop x ih=>
  intro s ht QA Q hQ env σ a w h st
  simp only[trans]at ht
  obtain⟨sx,h1,rfl⟩:=Option.map_eq_some_iff.1 ht
  obtain⟨I,k,env0,σ1,hI,hw,hround⟩:=h
  refine wp_loop_ghost (λk a w=>∃env σ,I k env σ/\St G ρ w0 σ0 n env σ a w) k ⟨env0,σ1,hI,st.weak hw⟩ ?_
  rintro k a w ⟨env,σ,hI,st⟩
  refine ih _ h1 _ _ ?_ _ _ _ _ (hround k env σ hI) st
  intro e env σ a w hq st
  cases e with
  |normal=>
   obtain⟨m,env'',σ'',hm,hI,hw⟩:=hq
   exact⟨m,hm,env'',σ'',hI,st.weak hw⟩
  |exit id=>exact hQ (.exit id) _ _ _ _ hq st
  |goto l=>exact hQ (.goto l) _ _ _ _ hq st
  |ret=>exact hQ .ret _ _ _ _ hq st
  |panic c=>exact hQ (.panic c) _ _ _ _ hq st
  |outgrown=>exact hQ .outgrown _ _ _ _ hq st
 |_=>intro s ht QA Q hQ env σ a w h st;cases ht;exact h.elim
/-! ### a function -/
def resSlots (P:Program):List ResultVar->Option (List (Nat×Option (Bool×Nat)))
 |[]=>some []
 | .tmp t::rs=>(resSlots P rs).map ((t,none):: ·)
 | .cell a t::rs=>match P.underlying t,sizeT P t with
  |some d,some n=>if aggD d||n==1 then (resSlots P rs).map ((a,some (aggD d,n)):: ·)else none
  |_,_=>none
def oneOrTup:List AV->AV
 |[x]=>x
 |xs=>.tup xs
def retX:List (Nat×Option (Bool×Nat))->Env->Store->(List AV->Prop)->Prop
 |[],_,_,K=>K []
 |(t,none)::rs,env,σ,K=>retX rs env σ λxs=>K (env.get t::xs)
 |(t,some (agg,n))::rs,env,σ,K=>loadX σ agg n (env.get t) λx=>retX rs env σ λxs=>K (x::xs)
def RET (r:AV) (σ:Store) (R:AV->Store->Prop):Prop:=∃r' σ',AVle r r'/\SubN σ' σ/\R r' σ'
def retQ (ts:List (Nat×Option (Bool×Nat))) (R:AV->Store->Prop):Exit->Env->Store->Prop
 | .normal,env,σ=>retX ts env σ λxs=>RET (oneOrTup xs) σ R
 | .ret,env,σ=>retX ts env σ λxs=>RET (oneOrTup xs) σ R
 |_,_,_=>False
def argEnv:Nat->List AV->Env
 |_,[]=>[]
 |i,x::xs=>(i,x)::argEnv (i+1) xs
theorem argEnv_get:∀(i:Nat) (xs:List AV) (j:Nat),(argEnv i xs).get j=if i<=j then xs.getD (j-i) .any else .any
 |i,[],j=>by simp[argEnv,Env.get]
 |i,x::xs,j=>by
  simp only[argEnv,Env.get]
  by_cases h:i=j
  ·subst h;simp
  ·rw[if_neg h,argEnv_get]
   by_cases h2:i<=j
   ·have h3:i+1<=j:=by omega
    rw[if_pos h2,if_pos h3,show j-i=(j-(i+1))+1 by omega,List.getD_cons_succ]
   ·rw[if_neg h2,if_neg (by omega)]
theorem argEnv_rep {τ:Store} {w:World} {args:List AV} {vs:Array Value} (k:Nat) (h:RepL τ w args vs.toList) (j:Nat):
  Rep τ w ((argEnv 0 args).get j) ((vs++Array.replicate k undef).getD j undef):=by
 rw[argEnv_get,if_pos (Nat.zero_le j),Nat.sub_zero]
 by_cases hj:j<args.length
 ·have hl:=h.length
  have h2:=h.get j hj
  have hv:j<vs.size:=by simpa[←hl]using hj
  have e1:args.getD j .any=args[j]:=by simp[hj]
  have e2:(vs++Array.replicate k undef).getD j undef=vs.toList[j]'(by simpa using hv):=by
   rw[Array.getD_eq_getD_getElem?,Array.getElem?_append_left hv]
   simp[hv]
  rw[e1,e2]
  exact h2 _
 ·have e1:args.getD j .any= .any:=by simp[Nat.not_lt.1 hj]
  rw[e1];simp only[Rep]
def resOne (tmps:Array Value):ResultVar->Sem Value
 | .tmp t=>pure (tmps.getD t undef)
 | .cell a t=>do loadVar t (←asAddr (tmps.getD a undef))
theorem retX_ok {σ:Store} {w:World} {env:Env} {a:Act} (hS:Sat G (σ++ρ) w) (hE:∀j,Rep (σ++ρ) w (env.get j) (a.tmps.getD j undef)):∀{rs:List ResultVar} {ts:List (Nat×Option (Bool×Nat))},resSlots P rs=some ts->
  ∀{K:List AV->Prop},retX ts env σ K->∃xs vs,K xs/\RepL (σ++ρ) w xs vs/\(rs.mapM (resOne a.tmps)).run P w= .ok vs w
 |[],ts,h,K,hK=>by cases h;exact⟨[],[],hK,by simp[RepL],by simp⟩
 | .tmp t::rs,ts,h,K,hK=>by
  simp only[resSlots]at h
  obtain⟨ts',h',rfl⟩:=Option.map_eq_some_iff.1 h
  simp only[retX]at hK
  obtain⟨xs,vs,hk,hr,hrun⟩:=retX_ok hS hE h' hK
  exact⟨env.get t::xs,a.tmps.getD t undef::vs,hk,by simp only[RepL];exact⟨_,_,rfl,hE t,hr⟩,by simp[List.mapM_cons,resOne,hrun]⟩
 | .cell c t::rs,ts,h,K,hK=>by
  simp only[resSlots]at h
  split at h
  ·rename_i d n hu hn
   split at h
   ·rename_i h1
    obtain⟨ts',h',rfl⟩:=Option.map_eq_some_iff.1 h
    simp only[retX]at hK
    obtain⟨ad,r,v,hp,hk,hr,hld⟩:=loadX_ok hu hn h1 rfl hS (hE c) hK
    obtain⟨xs,vs,hk,hrs,hrun⟩:=retX_ok hS hE h' hk
    refine⟨r::xs,v::vs,hk,by simp only[RepL];exact⟨_,_,rfl,hr,hrs⟩,?_⟩
    simp only[List.mapM_cons,resOne,hp,Sem.run_bind,asAddr,Sem.run_pure,Result.andThen_ok,hld w (Same.refl w),hrun]
   ·cases h
  ·cases h
def oneOrTuple:List Value->Value
 |[v]=>v
 |vs=>.tuple vs.toArray
theorem results_run {fn:Func} {tmps:Array Value} {P:Program} {w:World} {vs:List Value} (h1:(fn.results.toList.mapM (resOne tmps)).run P w= .ok vs w):
  (results fn tmps).run P w= .ok (oneOrTuple vs) w:=by
 have h2:results fn tmps=(do
   let vs ←fn.results.mapM (resOne tmps)
   pure (if h:vs.size=1 then vs[0]else .tuple vs)):=rfl
 rw[h2,Array.mapM_eq_mapM_toList,map_eq_pure_bind,bind_assoc,Sem.run_bind,h1]
 match vs with
 |[]=>simp[oneOrTuple]
 |[t]=>simp[oneOrTuple]
 |t::t'::ts=>simp[oneOrTuple]
theorem oneOrTup_rep {τ:Store} {w:World} {xs:List AV} {vs:List Value} (h:RepL τ w xs vs):Rep τ w (oneOrTup xs) (oneOrTuple vs):=by
 match xs,vs with
 |[],[]=>simp only[oneOrTup,Rep];exact⟨_,rfl,h⟩
 |[x],[v]=>simp only[oneOrTup,oneOrTuple];simp only[RepL]at h;obtain⟨u,us,e,hr,_⟩:=h;cases e;exact hr
 |x::y::xs,u::v::vs=>simp only[oneOrTup,Rep];exact⟨_,rfl,h⟩
 |[],v::vs=>simp[RepL]at h
 |[x],[]=>simp[RepL]at h
 |[x],u::v::vs=>simp[RepL]at h
 |x::y::xs,[]=>simp[RepL]at h
 |x::y::xs,[v]=>
  simp only[RepL]at h
  obtain⟨u,us,e,_,u',us',e',_⟩:=h
  cases e
  cases e'
theorem FnSpec.intro {k:FuncId} {fn:Func} {c:Code} {s:SCode} {keep:Nat->List Nat×Bool} {args:List AV} {σ:Store} {R:AV->Store->Prop} {ts:List (Nat×Option (Bool×Nat))}
  (hf:P.funcs[k]? =some fn) (hn:(fn.name== "runtime.NumGoroutine")=false) (hb:fn.body=some c) (hr:resSlots P fn.results.toList=some ts)
  (ht:trans P fn.ntmps keep c=some s) (h:swp G P s (retQ ts R) (argEnv 0 args) σ):FnSpec G P k args σ R:=by
 refine⟨⟨fn,hf,hn,by rw[hb];rfl⟩,λρ w vs hS hA=>calls_of_wp hf hb ?_⟩
 have st:St G ρ w σ fn.ntmps (argEnv 0 args) σ {tmps:=vs++Array.replicate (fn.ntmps-vs.size) undef,defers:=[]} w:=
  ⟨hS,Ev.refl σ w,argEnv_rep _ hA,by simp;omega,rfl⟩
 refine swp_sound c s ht _ _ ?_ _ _ _ _ h st
 have fin:∀env σ' a w',(retX ts env σ' λxs=>RET (oneOrTup xs) σ' R)->St G ρ w σ fn.ntmps env σ' a w'->
   a.defers=[]/\∃v,(results fn a.tmps).run P w'= .ok v w'/\(∃v_1 r σ'_1,Ending.returned v=Ending.returned v_1/\R r σ'_1/\Sat G (σ'_1++ρ) w'/\Ev σ w σ'_1 w'/\Rep (σ'_1++ρ) w' r v_1):=by
  intro env σ' a w' hq st
  obtain⟨xs,vs',⟨r',σ2,hle,hsub,hR⟩,hrep,hrun⟩:=retX_ok st.sat st.env hr hq
  refine⟨st.defers,_,results_run hrun,_,r',σ2,rfl,hR,st.sat.subN hsub,st.ev.trans (Ev.of_sub hsub.1 _),?_⟩
  exact hle.rep (Rep.ev (Ev.of_sub hsub.1 w') _ _ (oneOrTup_rep hrep))
 intro e env σ' a w' hq st
 cases e with
 |normal=>exact fin _ _ _ _ hq st
 |ret=>exact fin _ _ _ _ hq st
 |_=>exact hq.elim
end
end Go.Av
