/-
  ABSTRACT VALUES, 16: a region that draws; code; a function.
-/
import Derived.Test.YtjdccoplpljmlaaGreatDoorVXAv15b
import Derived.Lib.Builder
namespace Go.Av
open Go Go.RowKit List
set_option linter.unusedSimpArgs false
set_option linter.unusedVariables false
section
variable {G:Glob} {P:Program} {ρ:Store} {w0:World} {σ0:Store} {n:Nat}
theorem gN {ro:Nat->Bool} {ops:Array Oper} {Q:Act->Prop} {K:Env->Prop} {σ:Store} {w:World}
  (Y:∀env a,K env->(∀j,Rep (σ++ρ) w (env.get j) (a.tmps.getD j undef))->n<=a.tmps.size->a.defers=[]->Q a) (Z:Sat G (σ++ρ) w):
  ∀(l:List Oper) (V:List SOper) (env:Env) (a:Act),bY P n ro ops l=some V->qrun G P V env σ K->(∀j,Rep (σ++ρ) w (env.get j) (a.tmps.getD j undef))->n<=a.tmps.size->a.defers=[]->
   wpQuiet P ops (QC G σ ρ w) Q l a
 |[],V,env,a,ht,h,F,hs,hd=>by cases ht;exact Y _ _ h F hs hd
 |o::l,V,env,a,ht,h,F,hs,hd=>by
  obtain⟨so,g,rest,X,T,e3,e4,rfl⟩:=dF ht
  have go:∀env:Env,aqc G P so env σ (λr=>qrun G P rest (env.put o.dst r) σ K)->(∀j,Rep (σ++ρ) w (env.get j) (a.tmps.getD j undef))->o.quiet P a (QC G σ ρ w) (wpQuiet P ops (QC G σ ρ w) Q l):=by
   intro env h F
   have X:=X.resolve_right λe=>by
    rcases e with e|⟨_,_,_,_,_,e⟩<;>(rw[e]at h;exact h)
   obtain⟨r,u,hk,hr,hq⟩:=aqc_sound X Z F h
   exact⟨u,hq,gN Y Z l rest _ _ e4 hk (mw F e3 hs hr) (by rw[j3];exact hs) (by rw[gM];exact hd)⟩
  have skip:∀env:Env,qrun G P rest (env.put o.dst aE) σ K->(∀j,Rep (σ++ρ) w (env.get j) (a.tmps.getD j undef))->wpQuiet P ops (QC G σ ρ w) Q l (a.put o.dst undef):=λenv h F=>
   gN Y Z l rest _ _ e4 h (mw F e3 hs (cb _ w)) (by rw[j3];exact hs) (by rw[gM];exact hd)
  cases O:o.guard with
  |none=>
   rw[O]at T
   cases T
   simp only[wpQuiet]
   rw[if_pos (cA O)]
   exact go env h F
  |some jb=>
   obtain⟨j,E⟩:=jb
   rw[O]at T
   obtain⟨d,N,rfl⟩:=bD T
   have h:gd (env.get d) E (aqc G P so (env.set d (.bool E)) σ λr=>qrun G P rest ((env.set d (.bool E)).put o.dst r) σ K)
    (qrun G P rest ((env.set d (.bool (!E))).put o.dst aE) σ K) (qrun G P rest (env.put o.dst aE) σ K):=h
   unfold gd at h
   simp only[wpQuiet]
   split at h
   ·rename_i b I
    rw[bq O N F I]
    by_cases M:b=E
    ·subst M
     simp only[BEq.rfl,if_true]
     exact go _ (h.1 rfl) (l9 F I)
    ·have J:b= !E:=by cases b<;>cases E<;>simp_all
     have:(b==E)=false:=by simpa using M
     simp only[this]
     exact skip _ (h.2 J) (l9 F (by rw[I,J]))
   ·rename_i I
    rw[cf O N F I]
    exact skip _ h F
   ·exact h.elim
theorem jn {ro:Nat->Bool} {ops:Array Oper} {Q:Exit->Act->World->Prop} {K:Env->Store->Prop} (M:Region.noSelect ops=true) (hQ:∀c a w,¬Q (.panic c) a w)
  (hK:∀env σ a w,K env σ->St G ρ w0 σ0 n env σ a w->Q .normal a w):
  ∀(l:List Oper) (sl:List SOper) (k:Nat) (E:Array Bool) (env:Env) (σ:Store) (a:Act) (w:World),(∀j,l[j]? =ops[k+j]?)->bY P n ro ops l=some sl->gv ops sl k E=true->
   srun G P sl env σ K->St G ρ w0 σ0 n env σ a w->wpAny P .any ops Q l.length E a w
 |[],sl,k,E,env,σ,a,w,hl,ht,N,h,st=>by
  cases ht
  simp only[gv,isEmpty_iff]at N
  exact⟨N,hK _ _ _ _ h st⟩
 |o::l,sl,k,E,env,σ,a,w,hl,ht,N,h,st=>by
  obtain⟨so,g,rest,Y,e2,Z,e4,rfl⟩:=dF ht
  have O:ops[k]? =some o:=by have:=hl 0;simpa using this.symm
  have an:∀j,l[j]? =ops[k+1+j]? :=λj=>by have:=hl (j+1);simpa[Nat.add_assoc,Nat.add_comm 1 j]using this
  simp only[gv,Bool.and_eq_true]at N
  obtain⟨ag,al⟩:=N
  have next:∀env σ a w,srun G P rest env σ K->St G ρ w0 σ0 n env σ a w->wpAny P .any ops Q l.length (E.setIfInBounds k true) a w:=
   λenv σ a w h st=>jn M hQ hK l rest (k+1) _ env σ a w an e4 al h st
  have go:∀env,aop G P so env σ (λr σ'=>srun G P rest (env.put o.dst r) σ' K)->St G ρ w0 σ0 n env σ a w->Region.wanted o (yielded ops a.tmps)=true->wpAny P .any ops Q (l.length+1) E a w:=by
   intro env h st hw
   rcases Bool.or_eq_true _ _ ▸ ag with I|I
   ·simp only[Bool.and_eq_true]at I
    obtain⟨T,aw,bb⟩:=I
    have Y:bN P o.op=some so:=Y.resolve_right λe=>by
     rcases e with e|⟨_,_,_,_,_,e⟩<;>(rw[e]at T;exact absurd T (by simp[SOp.slot]))
    rw[kx T]at h
    obtain⟨r,u,V,J,ah⟩:=cZ rfl Y rfl st.sat st.env h
    refine wpAny_take O M aw bb (λc a w h=>(hQ _ _ _ h).elim) (v:=u) (.inl ⟨hw,λw'=>ah w' (λc=>by rw[fo Y T]at c;cases c)⟩) ?_
    exact next _ _ _ _ V (st.put Z st.sat (Ev.refl σ w) J)
   ·have I:Region.ready .any ops E=[k]:=by simpa using I
    refine wpAny_all I (by simp) λi hi=>?_
    have hi:i=k:=by simpa using hi
    subst hi
    unfold wpOp
    simp only[O]
    rw[if_pos hw]
    refine .inl ?_
    refine Y.elim (λY=>gr rfl Y st.sat st.env h λv r σ' w' V I he J=>next _ _ _ _ V (st.put Z I he J)) λe=>?_
    rcases e with e|⟨t,x,m,ho,hm,e⟩
    rotate_left
    ·rw[e]at h
     exact ms (n:=m) (K:=λr σ'=>srun G P rest (env.put o.dst r) σ' K) ho st.sat st.env h λv r σ' w' V I he J=>next _ _ _ _ V (st.put Z I he J)
    rw[e]at h
    obtain⟨v,w',r,σ',J,V,I,he,X⟩:=h ρ w a o rfl st.sat st.env
    rcases J with J|⟨J,rfl⟩
    ·exact bH J (next _ _ _ _ V (st.put Z I he X))
    ·exact ep J (next _ _ _ _ V (st.put Z I he X))
  have skip:∀env,srun G P rest (env.put o.dst aE) σ K->St G ρ w0 σ0 n env σ a w->Region.wanted o (yielded ops a.tmps)=false->wpAny P .any ops Q (l.length+1) E a w:=by
   intro env h st hw
   have hn:=next _ _ _ _ h (st.put Z st.sat (Ev.refl σ w) (cb _ w))
   rcases Bool.or_eq_true _ _ ▸ ag with I|I
   ·simp only[Bool.and_eq_true]at I
    exact wpAny_take O M I.2.1 I.2.2 (λc a w h=>(hQ _ _ _ h).elim) (v:=undef) (.inr ⟨hw,rfl⟩) hn
   ·have I:Region.ready .any ops E=[k]:=by simpa using I
    refine wpAny_all I (by simp) λi hi=>?_
    have hi:i=k:=by simpa using hi
    subst hi
    unfold wpOp
    simp only[O,hw]
    exact hn
  cases hg:o.guard with
  |none=>
   rw[hg]at e2
   cases e2
   exact go env h st (cA hg)
  |some jb=>
   obtain⟨j,F⟩:=jb
   rw[hg]at e2
   obtain⟨d,N,rfl⟩:=bD e2
   have h:gd (env.get d) F (aop G P so (env.set d (.bool F)) σ λr σ'=>srun G P rest ((env.set d (.bool F)).put o.dst r) σ' K)
    (srun G P rest ((env.set d (.bool (!F))).put o.dst aE) σ K) (srun G P rest (env.put o.dst aE) σ K):=h
   unfold gd at h
   split at h
   ·rename_i b hb
    by_cases ad:b=F
    ·subst ad
     exact go _ (h.1 rfl) (st.set hb) (by rw[bq hg N st.env hb];simp)
    ·have ac:b= !F:=by cases b<;>cases F<;>simp_all
     exact skip _ (h.2 ac) (st.set (by rw[hb,ac])) (by rw[bq hg N st.env hb];simpa using ad)
   ·rename_i hb
    exact skip _ h st (cf hg N st.env hb)
   ·exact h.elim
theorem swp_sound {keep:Nat->List Nat×Bool}:∀(c:Code) (s:SCode) (_:trans P n keep c=some s) (QA:Exit->Env->Store->Prop) (Q:Exit->Act->World->Prop)
  (_:∀e env σ a w,QA e env σ->St G ρ w0 σ0 n env σ a w->Q e a w) (env:Env) (σ:Store) (a:Act) (w:World),swp G P s QA env σ->St G ρ w0 σ0 n env σ a w->c.wp P Q a w:=by
 intro c
 induction c with
 |skip=>intro s N QA Q J env σ a w h st;cases N;exact wp_skip (J _ _ _ _ _ h st)
 |exit id=>intro s N QA Q J env σ a w h st;cases N;exact wp_exit (J _ _ _ _ _ h st)
 |ret=>intro s N QA Q J env σ a w h st;cases N;exact wp_ret (J _ _ _ _ _ h st)
 |region id ops draws=>
  intro s N QA Q J env σ a w h st
  cases draws with
  |false=>
   have N:((bY P n (λd=>(keep (2000000+d)).2) ops ops.toList).map λO=>if (keep id).2 then SCode.ghost O (keep id).1 else SCode.region O (keep id).1)=some s:=N
   obtain⟨O,X,rfl⟩:=Option.map_eq_some_iff.1 N
   by_cases hk:(keep id).2=true
   ·rw[if_pos hk]at h
    have h:srun G P O env σ λenv σ=>∃F σ',Weak G (env.keep (keep id).1) σ F σ'/\QA .normal F σ':=h
    refine wp_region_list (cN ?_ _ _ _ _ _ _ X h st)
    rintro env σ a w ⟨F,σ',hw,E⟩ st
    exact J _ _ _ _ _ E ((st.keep _).weak hw)
   ·rw[if_neg hk]at h
    have h:srun G P O env σ λenv σ=>QA .normal (env.keep (keep id).1) σ:=h
    refine wp_region_list (cN ?_ _ _ _ _ _ _ X h st)
    intro env σ a w E st
    exact J _ _ _ _ _ E (st.keep _)
  |true=>
   have N:((bY P n (λd=>(keep (2000000+d)).2) ops ops.toList).map λO=>
    if P.follows .mixedOrders&&(Region.noSelect ops&&gv ops O 0 (Array.replicate ops.size false))then SCode.drawL O (keep id).1
    else match (if P.follows .mixedOrders&&Region.noSelect ops then j9 P n (λd=>(keep (2000000+d)).2) ops ops.size (Array.replicate ops.size false) (jG (λd=>(keep (2000000+d)).2) ops.toList)else none)with
     |some sl=>.drawL sl (keep id).1
     |none=>if (P.follows .mixedOrders&&Region.lexB .any ops)&&O.all (λso=>quietOp so.op)then .draw O (keep id).1 else
      match (if P.follows .mixedOrders&&Region.noSelect ops then ko P n (λd=>(keep (2000000+d)).2) ops ops.size (Array.replicate ops.size false) (jG (λd=>(keep (2000000+d)).2) ops.toList)else none)with
      |some t=>.drawT t (keep id).1
      |none=>.bad)=some s:=N
   obtain⟨O,X,Y⟩:=Option.map_eq_some_iff.1 N
   have M:Ev σ w σ {w with drawn:=w.drawn+1}:=Ev.drew
   split at Y
   ·rename_i V
    subst Y
    simp only[Bool.and_eq_true]at V
    have h:srun G P O env σ λenv σ=>QA .normal (env.keep (keep id).1) σ:=h
    have T:St G ρ w0 σ0 n env σ a {w with drawn:=w.drawn+1}:=⟨st.sat.step M st.sat.nodup_left (λb hb=>.inl hb) (λb x Z=>(st.sat.obj b x (mem_append.2 (.inl Z))).keep M rfl),st.ev.trans M,λj=>Rep.ev M _ _ (st.env j),st.size,st.defers⟩
    refine wp_mono (Q:=λe a w=>(∀c,e≠ .panic c)/\Q e a w) (wp_region_any V.1 ?_) (λ_ _ _ h=>h.2)
    have:=jn (Q:=λe a w=>(∀c,e≠ .panic c)/\Q e a w) (K:=λenv σ=>QA .normal (env.keep (keep id).1) σ) V.2.1 (λc a w h=>h.1 c rfl)
     (λenv σ a w E st=>⟨(by intro c h;cases h),J _ _ _ _ _ E (st.keep _)⟩) ops.toList O 0 (Array.replicate ops.size false) env σ a _ (by simp) X V.2.2 h T
    simpa using this
   ·split at Y
    ·rename_i sl an
     subst Y
     split at an
     rotate_left
     ·cases an
     rename_i V
     simp only[Bool.and_eq_true]at V
     have h:srun G P sl env σ λenv σ=>QA .normal (env.keep (keep id).1) σ:=h
     have T:St G ρ w0 σ0 n env σ a {w with drawn:=w.drawn+1}:=⟨st.sat.step M st.sat.nodup_left (λb hb=>.inl hb) (λb x Z=>(st.sat.obj b x (mem_append.2 (.inl Z))).keep M rfl),st.ev.trans M,λj=>Rep.ev M _ _ (st.env j),st.size,st.defers⟩
     have ac:St G ρ {w with drawn:=w.drawn+1} σ n env σ a {w with drawn:=w.drawn+1}:={T with ev:=Ev.refl _ _}
     refine wp_mono (Q:=λe a w=>(∀c,e≠ .panic c)/\Q e a w) (wp_region_held (S:=bO σ {w with drawn:=w.drawn+1}) V.1 ?_) (λ_ _ _ h=>h.2)
     exact eu (Q:=λe a w=>(∀c,e≠ .panic c)/\Q e a w) (K:=λenv σ=>QA .normal (env.keep (keep id).1) σ) V.2 (λc a w h=>h.1 c rfl)
      (λenv σ' a w' E ad=>⟨(by intro c h;cases h),J _ _ _ _ _ E (({ad with ev:=T.ev.trans ad.ev}:St G ρ w0 σ0 n env σ' a w').keep _)⟩) T.sat ops.size _ _ sl env σ a _ an h ac (λj _=>ac.env j)
    split at Y
    ·rename_i V
     subst Y
     simp only[Bool.and_eq_true]at V
     have V:=V.1
     have h:qrun G P O env σ λenv=>QA .normal (env.keep (keep id).1) σ:=h
     refine wp_region_quiet (C:=QC G σ ρ w) V.1 V.2 ⟨st.sat.step M st.sat.nodup_left (λb hb=>.inl hb) (λb x Z=>?_),M,Nat.le_refl _,λ_ _=>rfl⟩ ?_
     ·exact(st.sat.obj b x (mem_append.2 (.inl Z))).keep M rfl
     ·refine gN (Q:=λa'=>∀w',QC G σ ρ w w'->Q .normal a' w') ?_ st.sat _ _ _ _ X h st.env st.size st.defers
      intro F a' hk hE Y hd w' hC
      have T:St G ρ w0 σ0 n F σ a' w':=⟨hC.1,st.ev.trans hC.2.1,λj=>Rep.ev hC.2.1 _ _ (hE j),Y,hd⟩
      exact J _ _ _ _ _ hk (T.keep _)
    split at Y
    ·rename_i tr aw
     subst Y
     split at aw
     rotate_left
     ·cases aw
     rename_i V
     simp only[Bool.and_eq_true]at V
     have h:trun G P tr env σ λenv σ=>∃F σ',Weak G (env.keep (keep id).1) σ F σ'/\QA .normal F σ':=h
     have T:St G ρ w0 σ0 n env σ a {w with drawn:=w.drawn+1}:=⟨st.sat.step M st.sat.nodup_left (λb hb=>.inl hb) (λb x Z=>(st.sat.obj b x (mem_append.2 (.inl Z))).keep M rfl),st.ev.trans M,λj=>Rep.ev M _ _ (st.env j),st.size,st.defers⟩
     have ac:St G ρ {w with drawn:=w.drawn+1} σ n env σ a {w with drawn:=w.drawn+1}:={T with ev:=Ev.refl _ _}
     refine wp_mono (Q:=λe a w=>(∀c,e≠ .panic c)/\Q e a w) (wp_region_held (S:=bO σ {w with drawn:=w.drawn+1}) V.1 ?_) (λ_ _ _ h=>h.2)
     exact eB (Q:=λe a w=>(∀c,e≠ .panic c)/\Q e a w) (K:=λenv σ=>∃F σ',Weak G (env.keep (keep id).1) σ F σ'/\QA .normal F σ') V.2 (λc a w h=>h.1 c rfl)
      (λenv σ' a w' E ad=>⟨(by intro c h;cases h),by
       obtain⟨F,ah,hw,E⟩:=E
       exact J _ _ _ _ _ E ((({ad with ev:=T.ev.trans ad.ev}:St G ρ w0 σ0 n env σ' a w').keep _).weak hw)⟩) T.sat ops.size _ _ tr env σ a _ aw h ac (λj _=>ac.env j)
    ·subst Y;exact h.elim
 |seq x y ihx ihy=>
  intro s N QA Q J env σ a w h st
  simp only[trans]at N
  split at N
  ·rename_i sx sy X h2
   cases N
   refine wp_seq (ihx _ X _ _ ?_ _ _ _ _ h st)
   intro e env σ a w E st
   cases e with
   |normal=>exact ihy _ h2 _ _ J _ _ _ _ E st
   |exit id=>exact J (.exit id) _ _ _ _ E st
   |goto l=>exact J (.goto l) _ _ _ _ E st
   |ret=>exact J .ret _ _ _ _ E st
   |panic c=>exact J (.panic c) _ _ _ _ E st
   |outgrown=>exact J .outgrown _ _ _ _ E st
  ·cases N
 |cond x y z ihy ihz=>
  intro s N QA Q J env σ a w h st
  simp only[trans]at N
  split at N
  ·rename_i sx sy X h2
   cases N
   simp only[swp]at h
   split at h
   ·rename_i t he
    have Z:=ar (G:=G) st.sat st.env x
    rw[he]at Z
    simp only[Rep]at Z
    exact wp_cond_split Z (λe=>ihy _ X _ _ J _ _ _ _ (h.1 e) st) (λe=>ihz _ h2 _ _ J _ _ _ _ (h.2 e) st)
   ·exact h.elim
  ·cases N
 |block id x ih=>
  intro s N QA Q J env σ a w h st
  simp only[trans]at N
  obtain⟨sx,X,rfl⟩:=Option.map_eq_some_iff.1 N
  have h:swp G P sx (jw id (eZ (λenv σ=>QA .normal (env.keep (keep (id+1000000)).1) σ) QA)) env σ:=h
  refine wp_block (ih _ X _ _ ?_ _ _ _ _ h st)
  intro e env σ a w E st
  cases e with
  |normal=>exact J .normal _ _ _ _ E (st.keep _)
  |exit id'=>
   by_cases hid:id'=id
   ·subst hid
    have E:QA .normal (env.keep (keep (id'+1000000)).1) σ:=by
     have E:(if id'=id' then QA .normal (env.keep (keep (id'+1000000)).1) σ else QA (.exit id') env σ):=E
     rwa [if_pos rfl]at E
    show if id'=id' then Q .normal a w else Q (.exit id') a w
    rw[if_pos rfl];exact J _ _ _ _ _ E (st.keep _)
   ·have E:QA (.exit id') env σ:=by
     have E:(if id'=id then QA .normal (env.keep (keep (id+1000000)).1) σ else QA (.exit id') env σ):=E
     rwa [if_neg hid]at E
    show if id'=id then Q .normal a w else Q (.exit id') a w
    rw[if_neg hid];exact J _ _ _ _ _ E st
  |goto l=>exact J (.goto l) _ _ _ _ E st
  |ret=>exact J .ret _ _ _ _ E st
  |panic c=>exact J (.panic c) _ _ _ _ E st
  |outgrown=>exact J .outgrown _ _ _ _ E st
 |loop x ih=>
  intro s N QA Q J env σ a w h st
  simp only[trans]at N
  obtain⟨sx,X,rfl⟩:=Option.map_eq_some_iff.1 N
  obtain⟨I,k,bb,bd,hI,hw,ag⟩:=h
  refine wp_loop_ghost (λk a w=>∃env σ,I k env σ/\St G ρ w0 σ0 n env σ a w) k ⟨bb,bd,hI,st.weak hw⟩ ?_
  rintro k a w ⟨env,σ,hI,st⟩
  refine ih _ X _ _ ?_ _ _ _ _ (ag k env σ hI) st
  intro e env σ a w E st
  cases e with
  |normal=>
   obtain⟨m,al,ah,hm,hI,hw⟩:=E
   exact⟨m,hm,al,ah,hI,st.weak hw⟩
  |exit id=>exact J (.exit id) _ _ _ _ E st
  |goto l=>exact J (.goto l) _ _ _ _ E st
  |ret=>exact J .ret _ _ _ _ E st
  |panic c=>exact J (.panic c) _ _ _ _ E st
  |outgrown=>exact J .outgrown _ _ _ _ E st
 |_=>intro s N QA Q J env σ a w h st;cases N;exact h.elim
/-! ### a function -/
def eh (P:Program):List ResultVar->Option (List (Nat×Option (Bool×Nat)))
 |[]=>some []
 | .tmp t::rs=>(eh P rs).map ((t,none):: ·)
 | .cell a t::rs=>match P.underlying t,aZ P t with
  |some d,some n=>if aggD d||n==1 then (eh P rs).map ((a,some (aggD d,n)):: ·)else none
  |_,_=>none
def ci:List AV->AV
 |[x]=>x
 |xs=>.tup xs
def retX:List (Nat×Option (Bool×Nat))->Env->Store->(List AV->Prop)->Prop
 |[],_,_,K=>K []
 |(t,none)::rs,env,σ,K=>retX rs env σ λxs=>K (env.get t::xs)
 |(t,some (agg,n))::rs,env,σ,K=>lJ σ agg n (env.get t) λx=>retX rs env σ λxs=>K (x::xs)
def RET (r:AV) (σ:Store) (R:AV->Store->Prop):Prop:=∃E σ',AVle r E/\SubN σ' σ/\R E σ'
def retQ (E:List (Nat×Option (Bool×Nat))) (R:AV->Store->Prop):Exit->Env->Store->Prop
 | .normal,env,σ=>retX E env σ λxs=>RET (ci xs) σ R
 | .ret,env,σ=>retX E env σ λxs=>RET (ci xs) σ R
 |_,_,_=>False
def cO:Nat->List AV->Env
 |_,[]=>[]
 |i,x::xs=>(i,x)::cO (i+1) xs
theorem k8:∀(i:Nat) (xs:List AV) (j:Nat),(cO i xs).get j=if i<=j then xs.getD (j-i) .any else .any
 |i,[],j=>by simp[cO,Env.get]
 |i,x::xs,j=>by
  simp only[cO,Env.get]
  by_cases h:i=j
  ·subst h;simp
  ·rw[if_neg h,k8]
   by_cases E:i<=j
   ·have F:i+1<=j:=by omega
    rw[if_pos E,if_pos F,show j-i=(j-(i+1))+1 by omega,getD_cons_succ]
   ·rw[if_neg E,if_neg (by omega)]
theorem oB {τ:Store} {w:World} {args:List AV} {vs:Array Value} (k:Nat) (h:RepL τ w args vs.toList) (j:Nat):
  Rep τ w ((cO 0 args).get j) ((vs++Array.replicate k undef).getD j undef):=by
 rw[k8,if_pos (Nat.zero_le j),Nat.sub_zero]
 by_cases E:j<args.length
 ·have N:=h.length
  have M:=h.get j E
  have I:j<vs.size:=by simpa[←N]using E
  have F:args.getD j .any=args[j]:=by simp[E]
  have J:(vs++Array.replicate k undef).getD j undef=vs.toList[j]'(by simpa using I):=by
   rw[Array.getD_eq_getD_getElem?,Array.getElem?_append_left I]
   simp[I]
  rw[F,J]
  exact M _
 ·have F:args.getD j .any= .any:=by simp[Nat.not_lt.1 E]
  rw[F];simp only[Rep]
def kf (tmps:Array Value):ResultVar->Sem Value
 | .tmp t=>pure (tmps.getD t undef)
 | .cell a t=>do loadVar t (←asAddr (tmps.getD a undef))
theorem mI {σ:Store} {w:World} {env:Env} {a:Act} (O:Sat G (σ++ρ) w) (J:∀j,Rep (σ++ρ) w (env.get j) (a.tmps.getD j undef)):∀{M:List ResultVar} {I:List (Nat×Option (Bool×Nat))},eh P M=some I->
  ∀{K:List AV->Prop},retX I env σ K->∃xs vs,K xs/\RepL (σ++ρ) w xs vs/\(M.mapM (kf a.tmps)).run P w= .ok vs w
 |[],I,h,K,hK=>by cases h;exact⟨[],[],hK,by simp[RepL],by simp⟩
 | .tmp t::M,I,h,K,hK=>by
  simp only[eh]at h
  obtain⟨Y,N,rfl⟩:=Option.map_eq_some_iff.1 h
  simp only[retX]at hK
  obtain⟨xs,vs,F,V,E⟩:=mI O J N hK
  exact⟨env.get t::xs,a.tmps.getD t undef::vs,F,by simp only[RepL];exact⟨_,_,rfl,J t,V⟩,by simp[mapM_cons,kf,E]⟩
 | .cell c t::M,I,h,K,hK=>by
  simp only[eh]at h
  split at h
  ·rename_i d n hu hn
   split at h
   ·rename_i Z
    obtain⟨Y,N,rfl⟩:=Option.map_eq_some_iff.1 h
    simp only[retX]at hK
    obtain⟨ad,r,v,hp,F,V,T⟩:=nk hu hn Z rfl O (J c) hK
    obtain⟨xs,vs,F,X,E⟩:=mI O J N F
    refine⟨r::xs,v::vs,F,by simp only[RepL];exact⟨_,_,rfl,V,X⟩,?_⟩
    simp only[mapM_cons,kf,hp,Sem.run_bind,asAddr,Sem.run_pure,Result.andThen_ok,T w (Same.refl w),E]
   ·cases h
  ·cases h
def dz:List Value->Value
 |[v]=>v
 |vs=>.tuple vs.toArray
theorem nv {fn:Func} {tmps:Array Value} {P:Program} {w:World} {vs:List Value} (E:(fn.results.toList.mapM (kf tmps)).run P w= .ok vs w):
  (results fn tmps).run P w= .ok (dz vs) w:=by
 have F:results fn tmps=(do
   let vs ←fn.results.mapM (kf tmps)
   pure (if h:vs.size=1 then vs[0]else .tuple vs)):=rfl
 rw[F,Array.mapM_eq_mapM_toList,map_eq_pure_bind,bind_assoc,Sem.run_bind,E]
 match vs with
 |[]=>simp[dz]
 |[t]=>simp[dz]
 |t::t'::ts=>simp[dz]
theorem mG {τ:Store} {w:World} {xs:List AV} {vs:List Value} (h:RepL τ w xs vs):Rep τ w (ci xs) (dz vs):=by
 match xs,vs with
 |[],[]=>simp only[ci,Rep];exact⟨_,rfl,h⟩
 |[x],[v]=>simp only[ci,dz];simp only[RepL]at h;obtain⟨u,us,e,E,_⟩:=h;cases e;exact E
 |x::y::xs,u::v::vs=>simp only[ci,Rep];exact⟨_,rfl,h⟩
 |[],v::vs=>simp[RepL]at h
 |[x],[]=>simp[RepL]at h
 |[x],u::v::vs=>simp[RepL]at h
 |x::y::xs,[]=>simp[RepL]at h
 |x::y::xs,[v]=>
  simp only[RepL]at h
  obtain⟨u,us,e,_,I,F,e',_⟩:=h
  cases e
  cases e'
theorem aj.intro {k:FuncId} {fn:Func} {c:Code} {s:SCode} {keep:Nat->List Nat×Bool} {args:List AV} {σ:Store} {R:AV->Store->Prop} {V:List (Nat×Option (Bool×Nat))}
  (Z:P.funcs[k]? =some fn) (hn:(fn.name== "runtime.NumGoroutine")=false) (Y:fn.body=some c) (hr:eh P fn.results.toList=some V)
  (ht:trans P fn.ntmps keep c=some s) (h:swp G P s (retQ V R) (cO 0 args) σ):aj G P k args σ R:=by
 refine⟨⟨fn,Z,hn,by rw[Y];rfl⟩,λρ w vs hS hA=>calls_of_wp Z Y ?_⟩
 have st:St G ρ w σ fn.ntmps (cO 0 args) σ {tmps:=vs++Array.replicate (fn.ntmps-vs.size) undef,defers:=[]} w:=
  ⟨hS,Ev.refl σ w,oB _ hA,by simp;omega,rfl⟩
 refine swp_sound c s ht _ _ ?_ _ _ _ _ h st
 have I:∀env σ' a w',(retX V env σ' λxs=>RET (ci xs) σ' R)->St G ρ w σ fn.ntmps env σ' a w'->
   a.defers=[]/\∃v,(results fn a.tmps).run P w'= .ok v w'/\(∃O r E,Ending.returned v=Ending.returned O/\R r E/\Sat G (E++ρ) w'/\Ev σ w E w'/\Rep (E++ρ) w' r O):=by
  intro env σ' a w' J st
  obtain⟨xs,ac,⟨r',X,T,F,hR⟩,M,N⟩:=mI st.sat st.env hr J
  refine⟨st.defers,_,nv N,_,r',X,rfl,hR,st.sat.subN F,st.ev.trans (Ev.of_sub F.1 _),?_⟩
  exact T.rep (Rep.ev (Ev.of_sub F.1 w') _ _ (mG M))
 intro e env σ' a w' J st
 cases e with
 |normal=>exact I _ _ _ _ J st
 |ret=>exact I _ _ _ _ J st
 |_=>exact J.elim
end
/-! ### slots still read -/
def insN (n:Nat):List Nat->List Nat
 |[]=>[n]
 |m::l=>if n<m then n::m::l else if n==m then m::l else m::insN n l
def uniN (xs ys:List Nat):List Nat:=xs.foldr insN ys
def delN (d:Option Nat) (l:List Nat):List Nat:=match d with
 |none=>l
 |some d=>l.filter λm=>!(m==d)
def opdR:Operand->List Nat
 | .tmp t=>[t]
 |_=>[]
def opdsR (xs:List Operand):List Nat:=xs.flatMap opdR
def opR (op:Op):List Nat:=opdsR op.operands.toList
def opersR (ops:Array Oper):List Oper->List Nat->List Nat
 |[],l=>l
 |o::rest,l=>uniN (opR o.op++(match o.guard with
  |none=>[]
  |some (j,_)=>(((ops[j]?).bind (·.dst)).map λd=>[d]).getD [])) (delN o.dst (opersR ops rest l))
def exitR (es:List (Nat×List Nat)) (id:Nat):List Nat:=((es.find? λp=>p.1==id).map (·.2)).getD []
def jp (ret:List Nat):Code->List (Nat×List Nat)->List Nat->List Nat×List (Nat×List Nat)
 | .skip,_,l=>(l,[])
 | .region id ops _,_,l=>(opersR ops ops.toList l,[(id,l)])
 | .seq a b,es,l=>
  let F:=jp ret b es l
  let E:=jp ret a es F.1
  (E.1,E.2++F.2)
 | .cond c a b,es,l=>
  let E:=jp ret a es l
  let F:=jp ret b es l
  (uniN (opdR c) (uniN E.1 F.1),E.2++F.2)
 | .block id a,es,l=>
  let r:=jp ret a ((id,l)::es) l
  (r.1,(id+1000000,l)::r.2)
 | .loop a,es,_=>
  let r:=jp ret a es []
  jp ret a es r.1
 | .exit id,es,_=>(exitR es id,[])
 | .ret,_,_=>(ret,[])
 |_,_,l=>(l,[])
def keepOf (g:List Nat) (ks:List (Nat×List Nat)) (id:Nat):List Nat×Bool:=(exitR ks id,g.contains id)
def jL (P:Program) (g:List Nat) (fn:Func):Option (List (Nat×Option (Bool×Nat))×SCode):=
 if fn.name== "runtime.NumGoroutine" then none else
 match fn.body,eh P fn.results.toList with
 |some c,some ts=>(trans P fn.ntmps (keepOf g (jp (ts.foldr (λp l=>insN p.1 l) []) c [] (ts.foldr (λp l=>insN p.1 l) [])).2) c).map (ts,·)
 |_,_=>none
def fnAt (P:Program) (k:Nat) (g:List Nat):Option (List (Nat×Option (Bool×Nat))×SCode):=(P.funcs[k]?).bind (jL P g)
theorem aj.at {G:Glob} {P:Program} {k:Nat} {g:List Nat} {I:List (Nat×Option (Bool×Nat))} {s:SCode} {args:List AV} {σ:Store} {R:AV->Store->Prop} (E:fnAt P k g=some (I,s))
  (h:swp G P s (retQ I R) (cO 0 args) σ):aj G P k args σ R:=by
 unfold fnAt at E
 cases F:P.funcs[k]? with
 |none=>rw[F]at E;cases E
 |some fn=>
  rw[F]at E
  have E:jL P g fn=some (I,s):=E
  unfold jL at E
  split at E
  ·cases E
  ·rename_i N
   split at E
   ·rename_i c V J O
    obtain⟨X,T,M⟩:=Option.map_eq_some_iff.1 E
    cases M
    exact aj.intro F (by simpa using N) J O T h
   ·cases E
section
variable {G:Glob} {P:Program} {env:Env} {σ:Store} {R:AV->Store->Prop} {KL:List AV->Prop} {tL:Tag KL}
def RX (E:List (Nat×Option (Bool×Nat))) (env:Env) (σ:Store) (K:List AV->Prop) (_t:Tag K):Prop:=retX E env σ K
theorem retQ_ret {E:List (Nat×Option (Bool×Nat))}:retQ E R .ret env σ=RX E env σ (λxs=>RET (ci xs) σ R) ⟨⟩:=(rfl)
theorem ns {E:List (Nat×Option (Bool×Nat))}:retQ E R .normal env σ=RX E env σ (λxs=>RET (ci xs) σ R) ⟨⟩:=(rfl)
theorem RX_nil:RX [] env σ KL tL=KL []:=(rfl)
theorem RX_tmp {t:Nat} {E:List (Nat×Option (Bool×Nat))}:RX ((t,none)::E) env σ KL tL=RX E env σ (λxs=>KL (env.get t::xs)) ⟨⟩:=(rfl)
theorem RX_cell {t n:Nat} {agg:Bool} {E:List (Nat×Option (Bool×Nat))}:
  RX ((t,some (agg,n))::E) env σ KL tL=kY σ agg n (env.get t) (λx=>RX E env σ (λxs=>KL (x::xs)) ⟨⟩) ⟨⟩:=(rfl)
theorem one_nil:ci []= .tup []:=(rfl)
theorem one_one {x:AV}:ci [x]=x:=(rfl)
theorem one_two {x y:AV} {xs:List AV}:ci (x::y::xs)= .tup (x::y::xs):=(rfl)
theorem ot {i:Nat}:cO i []=[]:=(rfl)
theorem nr {i:Nat} {x:AV} {xs:List AV}:cO i (x::xs)=(i,x)::cO (i+1) xs:=(rfl)
theorem aj.w {k:Nat} {g:List Nat} {E:List (Nat×Option (Bool×Nat))} {s:SCode} {args:List AV} (F:fnAt P k g=some (E,s))
  (h:W G P s (retQ E R) (cO 0 args) σ ⟨⟩):aj G P k args σ R:=aj.at F h
theorem Pure.w {k:Nat} {g:List Nat} {E:List (Nat×Option (Bool×Nat))} {s:SCode} {args:List AV} {r:AV} (F:fnAt P k g=some (E,s))
  (h:∀R:AV->Store->Prop,(∀x σ,AVle x r->RET x σ R)->W G P s (retQ E R) (cO 0 args) [] ⟨⟩):Pure G P k args r:=
 aj.at (R:=λx σ=>x=r/\σ=[]) F (h (λx σ=>x=r/\σ=[]) λ_ σ J=>⟨r,[],J,⟨(λp I=>by cases I),λ_=>nodup_nil⟩,⟨rfl,rfl⟩⟩)
theorem RET.eq {x:AV} {r:AV} {R:AV->Store->Prop} {σ:Store} (E:∀x σ,AVle x r->RET x σ R) (h:x=r):RET x σ R:=E _ _ (h ▸ AVle.rfl' _)
theorem RQ {r:AV} {R:AV->Store->Prop} (E:∀x σ,AVle x r->RET x σ R) {σ:Store}:RET r σ R:=E _ _ (.inl (.inl rfl))
end
section
variable {G:Glob} {P:Program}
theorem Ev.below {w w':World} (h:Below w.heap.size w w'):Ev [] w [] w' where
 os:=h.os
 tape:=h.tape
 output:=h.output
 size:=h.size
 block b E _:=⟨h.block b E,by simp[Store.keys]⟩
 shape b s hs:=by
  have E:b<w.heap.size:=by
   unfold World.shape? at hs
   cases F:w.heap[b]? with
   |none=>simp[F]at hs
   |some o=>exact(Array.getElem?_eq_some_iff.1 F).1
  unfold World.shape? at*
  rw[h.block b E]
  exact hs
 cell a v hv _:=by
  have E:=fq hv
  refine⟨?_,λm=>by obtain⟨x,F,_⟩:=m;simp at F⟩
  rw[World.cell?_of_block (w:=w) (h.block a.block E)]
  exact hv
theorem Sat.below {ρ:Store} {w w':World} (E:Sat G ρ w) (h:Below w.heap.size w w'):Sat G ρ w':=by
 have:=Sat.step (σ:=[]) (σ':=[]) (ρ:=ρ) (by simpa using E) (Ev.below h) (by simp[Store.keys]) (by simp[Store.keys]) (by simp)
 simpa using this
theorem Pure.of_calls {k:FuncId} {fn:Func} {args:List AV} {r:AV} (O:P.funcs[k]? =some fn) (T:(fn.name== "runtime.NumGoroutine")=false) (M:fn.body.isNone=false)
  (h:∀(τ:Store) (w:World) (vs:Array Value),Sat G τ w->RepL τ w args vs.toList->∃v,(∀E w',Rep E w' r v)/\Calls P k vs w λe w'=>e= .returned v/\Below w.heap.size w w'):Pure G P k args r:=
 ⟨⟨fn,O,T,M⟩,λρ w vs I J=>by
  obtain⟨v,V,N⟩:=h _ w vs I J
  refine N.mono ?_
  rintro e w' ⟨rfl,F⟩
  exact⟨v,r,[],rfl,⟨rfl,rfl⟩,by simpa using Sat.below (by simpa using I) F,Ev.below F,V _ _⟩⟩
theorem g8 {τ:Store} {w:World} {x y:AV} {vs:Array Value} (h:RepL τ w [x,y] vs.toList):∃u v,vs=#[u,v]/\Rep τ w x u/\Rep τ w y v:=by
 simp only[RepL]at h
 obtain⟨u,us,E,F,v,N,I,J,M⟩:=h
 subst M I
 exact⟨u,v,by apply Array.ext';simpa using E,F,J⟩
theorem vs_one {τ:Store} {w:World} {x:AV} {vs:Array Value} (h:RepL τ w [x] vs.toList):∃u,vs=#[u]/\Rep τ w x u:=by
 simp only[RepL]at h
 obtain⟨u,us,E,F,I⟩:=h
 subst I
 exact⟨u,by apply Array.ext';simpa using E,F⟩
theorem ca {op:Op} {env:Env} {σ:Store} {K:AV->Store->Prop} (r:AV)
  (h:∀(ρ:Store) (w:World) (a:Act) (o:Oper),o.op=op->Sat G (σ++ρ) w->(∀j,Rep (σ++ρ) w (env.get j) (a.tmps.getD j undef))->∃v,(execOp a.eval o).run P w= .ok (.value v) w/\Rep (σ++ρ) w r v) (I:K r σ):RAW G P op env σ K ⟨⟩:=by
 intro ρ w a o J E F
 obtain⟨v,M,N⟩:=h ρ w a o J E F
 exact⟨v,w,r,σ,.inl M,I,E,Ev.refl σ w,N⟩
end
def StLe:Store->Store->Prop
 |[],[]=>True
 |(b,.cells e cs)::σ,(b',.cells e' cs')::σ'=>b=b'/\e=e'/\br cs cs'/\StLe σ σ'
 |(b,x)::σ,(b',x')::σ'=>b=b'/\x=x'/\StLe σ σ'
 |_,_=>False
theorem StLe.keys:∀{σ σ':Store},StLe σ σ'->σ'.keys=σ.keys
 |[],[],_=>rfl
 |(b,.cells e cs)::σ,(b',.cells e' cs')::σ',h=>by
  obtain⟨rfl,_,_,h⟩:=h
  have:=StLe.keys h
  simp only[Store.keys]at this
  simp[Store.keys,this]
 |(b,.tok e k)::σ,(b',x')::σ',h=>by
  have h:b=b'/\_/\StLe σ σ':=h
  have:=StLe.keys h.2.2
  simp only[Store.keys]at this
  simp[Store.keys,this,h.1]
 |(b,.map es)::σ,(b',x')::σ',h=>by
  have h:b=b'/\_/\StLe σ σ':=h
  have:=StLe.keys h.2.2
  simp only[Store.keys]at this
  simp[Store.keys,this,h.1]
 |(b,.mapB es bs cl)::σ,(b',x')::σ',h=>by
  have h:b=b'/\_/\StLe σ σ':=h
  have:=StLe.keys h.2.2
  simp only[Store.keys]at this
  simp[Store.keys,this,h.1]
 |(b,.iter m s se l)::σ,(b',x')::σ',h=>by
  have h:b=b'/\_/\StLe σ σ':=h
  have:=StLe.keys h.2.2
  simp only[Store.keys]at this
  simp[Store.keys,this,h.1]
 |(b,.cells e cs)::σ,(b',.tok _ _)::σ',h=>by
  have h:b=b'/\_/\StLe σ σ':=h
  cases h.2.1
 |(b,.cells e cs)::σ,(b',.map _)::σ',h=>by
  have h:b=b'/\_/\StLe σ σ':=h
  cases h.2.1
 |(b,.cells e cs)::σ,(b',.mapB _ _ _)::σ',h=>by
  have h:b=b'/\_/\StLe σ σ':=h
  cases h.2.1
 |(b,.cells e cs)::σ,(b',.iter _ _ _ _)::σ',h=>by
  have h:b=b'/\_/\StLe σ σ':=h
  cases h.2.1
 |[],_::_,h=>h.elim
 |(_,.cells _ _)::_,[],h=>h.elim
 |(_,.tok _ _)::_,[],h=>h.elim
 |(_,.map _)::_,[],h=>h.elim
 |(_,.mapB _ _ _)::_,[],h=>h.elim
 |(_,.iter _ _ _ _)::_,[],h=>h.elim
theorem StLe.back:∀{σ σ':Store},StLe σ σ'->∀{b:Nat} {I:AObj},(b,I)∈σ'->∃x,(b,x)∈σ/\(x=I\/∃e cs cs',x= .cells e cs/\I= .cells e cs'/\br cs cs')
 |[],[],_,b,I,h=>by simp at h
 |(b,.cells e cs)::σ,(b',.cells e' cs')::σ',h,c,I,hm=>by
  obtain⟨rfl,rfl,N,h⟩:=h
  rcases mem_cons.1 hm with e1|hm
  ·cases e1
   exact⟨_,mem_cons_self ..,.inr ⟨_,_,_,rfl,rfl,N⟩⟩
  ·obtain⟨x,F,E⟩:=StLe.back h hm
   exact⟨x,mem_cons_of_mem _ F,E⟩
 |(b,.tok e k)::σ,(b',y)::σ',h,c,I,hm=>by
  have J:b=b'/\_=y/\StLe σ σ':=h
  obtain⟨rfl,rfl,M⟩:=J
  rcases mem_cons.1 hm with e1|hm
  ·cases e1;exact⟨_,mem_cons_self ..,.inl rfl⟩
  ·obtain⟨x,F,E⟩:=StLe.back M hm
   exact⟨x,mem_cons_of_mem _ F,E⟩
 |(b,.map es)::σ,(b',y)::σ',h,c,I,hm=>by
  have J:b=b'/\_=y/\StLe σ σ':=h
  obtain⟨rfl,rfl,M⟩:=J
  rcases mem_cons.1 hm with e1|hm
  ·cases e1;exact⟨_,mem_cons_self ..,.inl rfl⟩
  ·obtain⟨x,F,E⟩:=StLe.back M hm
   exact⟨x,mem_cons_of_mem _ F,E⟩
 |(b,.mapB es bs cl)::σ,(b',y)::σ',h,c,I,hm=>by
  have J:b=b'/\_=y/\StLe σ σ':=h
  obtain⟨rfl,rfl,M⟩:=J
  rcases mem_cons.1 hm with e1|hm
  ·cases e1;exact⟨_,mem_cons_self ..,.inl rfl⟩
  ·obtain⟨x,F,E⟩:=StLe.back M hm
   exact⟨x,mem_cons_of_mem _ F,E⟩
 |(b,.iter m s se l)::σ,(b',y)::σ',h,c,I,hm=>by
  have J:b=b'/\_=y/\StLe σ σ':=h
  obtain⟨rfl,rfl,M⟩:=J
  rcases mem_cons.1 hm with e1|hm
  ·cases e1;exact⟨_,mem_cons_self ..,.inl rfl⟩
  ·obtain⟨x,F,E⟩:=StLe.back M hm
   exact⟨x,mem_cons_of_mem _ F,E⟩
 |(b,.cells e cs)::σ,(b',.tok _ _)::σ',h,_,_,_=>by
  have h:b=b'/\_/\StLe σ σ':=h
  cases h.2.1
 |(b,.cells e cs)::σ,(b',.map _)::σ',h,_,_,_=>by
  have h:b=b'/\_/\StLe σ σ':=h
  cases h.2.1
 |(b,.cells e cs)::σ,(b',.mapB _ _ _)::σ',h,_,_,_=>by
  have h:b=b'/\_/\StLe σ σ':=h
  cases h.2.1
 |(b,.cells e cs)::σ,(b',.iter _ _ _ _)::σ',h,_,_,_=>by
  have h:b=b'/\_/\StLe σ σ':=h
  cases h.2.1
 |[],_::_,h,_,_,_=>h.elim
 |(_,.cells _ _)::_,[],h,_,_,_=>h.elim
 |(_,.tok _ _)::_,[],h,_,_,_=>h.elim
 |(_,.map _)::_,[],h,_,_,_=>h.elim
 |(_,.mapB _ _ _)::_,[],h,_,_,_=>h.elim
 |(_,.iter _ _ _ _)::_,[],h,_,_,_=>h.elim
theorem StLe.mut {σ σ':Store} (h:StLe σ σ') {b o:Nat} (m:Mut σ' b o):Mut σ b o:=by
 obtain⟨J,E,I⟩:=m
 obtain⟨x,F,rfl|⟨e,cs,cs',rfl,rfl,_⟩⟩:=h.back E
 ·exact⟨_,F,I⟩
 ·exact⟨_,F,trivial⟩
theorem StLe.ev {σ σ':Store} (h:StLe σ σ') (w:World):Ev σ w σ' w:=
 ⟨rfl,rfl,rfl,Nat.le_refl _,λ_ _ I=>⟨rfl,λE=>I (by rw[h.keys]at E;exact E)⟩,λ_ _ h=>h,λ_ _ J F=>⟨J,λm=>F (h.mut m)⟩⟩
theorem StLe.sat {G:Glob} {σ σ' ρ:Store} {w:World} (h:StLe σ σ') (N:Sat G (σ++ρ) w):Sat G (σ'++ρ) w:=by
 refine Sat.step N (h.ev w) ?_ (λb V=>.inl (by rw[h.keys]at V;exact V)) (λb Z T=>?_)
 ·have:=N.nodup
  rw[aB]at this
  rw[h.keys]
  exact(nodup_append.1 this).1
 ·obtain⟨x,Y,O⟩:=h.back T
  have J:=N.obj b x (mem_append.2 (.inl Y))
  have ev:∀{xs us},RepL (σ++ρ) w xs us->RepL (σ'++ρ) w xs us:=λO=>RepL.ev (h.ev w) _ _ O
  rcases O with rfl|⟨e,cs,cs',rfl,rfl,X⟩
  ·cases x with
   |cells e cs=>obtain⟨vs,E,F,I⟩:=J;exact⟨vs,E,F,ev I⟩
   |tok e k=>exact J
   |map es=>obtain⟨ents,c,E,F,I,M⟩:=J;exact⟨ents,c,E,F,ev I,M⟩
   |mapB es bs c=>obtain⟨ents,E,F,I,M⟩:=J;exact⟨ents,E,F,ev I,M⟩
   |iter m s se l=>exact J
  ·obtain⟨vs,E,F,I⟩:=J
   exact⟨vs,E,F,X.rep (ev I)⟩
theorem Weak.st {G:Glob} {env:Env} {σ σ':Store} (E:StLe σ σ'):Weak G env σ env σ':=λρ w _ I F=>⟨E.sat I,E.ev w,λj=>Rep.ev (E.ev w) _ _ (F j)⟩
end Go.Av
