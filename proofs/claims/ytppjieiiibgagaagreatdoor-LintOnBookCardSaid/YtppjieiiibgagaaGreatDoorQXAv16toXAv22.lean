/-
  ABSTRACT VALUES, 16: a region that draws; code; a function.
-/
import Derived.Test.YtppjieiiibgagaaGreatDoorQXAv15b
import Derived.Lib.Builder
import Derived.Laws.IdiomStrings
import Derived.Laws.CopyRow
import Derived.Laws.MakeOwn
import Derived.Laws.OwnMore
import Derived.Lib.BufferRead
set_option linter.all false
namespace Go.Av
open Go Go.RowKit List
section
variable {G:Glob} {P:Program} {ρ:Store} {w0:World} {σ0:Store} {n:Nat}
def i7 {ro:Nat->Bool} {ops:Array Oper} {Q:Act->Prop} {K:Env->Prop} {σ:Store} {w:World}
  (X:∀env a,K env->(∀j,Rep (σ++ρ) w (env.get j) (a.tmps.getD j undef))->n<=a.tmps.size->a.defers=[]->Q a) (Y:Sat G (σ++ρ) w):
  ∀(l:List Oper) (T:List SOper) (env:Env) (a:Act),cI P n ro ops l=some T->qrun G P T env σ K->(∀j,Rep (σ++ρ) w (env.get j) (a.tmps.getD j undef))->n<=a.tmps.size->a.defers=[]->
   wpQuiet P ops (QC G σ ρ w) Q l a
 |[],T,env,a,ht,h,E,hs,hd=>by cases ht;exact X _ _ h E hs hd
 |o::l,T,env,a,ht,h,E,hs,hd=>by
  obtain⟨so,g,rest,V,O,Z,e4,rfl⟩:=eG ht
  have go:∀env:Env,aqc G P so env σ (λr=>qrun G P rest (env.put o.dst r) σ K)->(∀j,Rep (σ++ρ) w (env.get j) (a.tmps.getD j undef))->o.quiet P a (QC G σ ρ w) (wpQuiet P ops (QC G σ ρ w) Q l):=by
   intro env h E
   have V:=V.resolve_right λe=>by
    rcases e with e|⟨_,_,_,_,_,e⟩<;>(rw[e]at h;exact h)
   obtain⟨r,u,hk,hr,hq⟩:=aqc_sound V Y E h;exact⟨u,hq,i7 X Y l rest _ _ e4 hk (oJ E Z hs hr) (by rw[mH];exact hs) (by rw[jf];exact hd)⟩
  have skip:∀env:Env,qrun G P rest (env.put o.dst aG) σ K->(∀j,Rep (σ++ρ) w (env.get j) (a.tmps.getD j undef))->wpQuiet P ops (QC G σ ρ w) Q l (a.put o.dst undef):=λenv h E=>
   i7 X Y l rest _ _ e4 h (oJ E Z hs (cJ _ w)) (by rw[mH];exact hs) (by rw[jf];exact hd)
  cases N:o.guard with
  |none=>
   rw[N]at O
   cases O
   simp only[wpQuiet];rw[if_pos (dj N)];exact go env h E
  |some jb=>
   obtain⟨j,D⟩:=jb;rw[N]at O;obtain⟨d,M,rfl⟩:=bV O;have h:gd (env.get d) D (aqc G P so (env.set d (.bool D)) σ λr=>qrun G P rest ((env.set d (.bool D)).put o.dst r) σ K)
    (qrun G P rest ((env.set d (.bool (!D))).put o.dst aG) σ K) (qrun G P rest (env.put o.dst aG) σ K):=h
   unfold gd at h;simp only[wpQuiet];split at h
   ·rename_i b F;rw[bN N M E F];by_cases J:b=D
    ·subst J;simp only[BEq.rfl,if_true];exact go _ (h.1 rfl) (oF E F)
    ·have I:b= !D:=by cases b<;>cases D<;>simp_all
     have:(b==D)=false:=by simpa using J
     simp only[this];exact skip _ (h.2 I) (oF E (by rw[F,I]))
   ·rename_i F;rw[cS N M E F];exact skip _ h E
   ·exact h.elim
def kz {ro:Nat->Bool} {ops:Array Oper} {Q:Exit->Act->World->Prop} {K:Env->Store->Prop} (J:Region.noSelect ops=true) (hQ:∀c a w,¬Q (.panic c) a w)
  (hK:∀env σ a w,K env σ->St G ρ w0 σ0 n env σ a w->Q .normal a w):
  ∀(l:List Oper) (sl:List SOper) (k:Nat) (D:Array Bool) (env:Env) (σ:Store) (a:Act) (w:World),(∀j,l[j]? =ops[k+j]?)->cI P n ro ops l=some sl->iP ops sl k D=true->
   srun G P sl env σ K->St G ρ w0 σ0 n env σ a w->wpAny P .any ops Q l.length D a w
 |[],sl,k,D,env,σ,a,w,hl,ht,M,h,st=>by
  cases ht
  simp only[iP,isEmpty_iff]at M;exact⟨M,hK _ _ _ _ h st⟩
 |o::l,sl,k,D,env,σ,a,w,hl,ht,M,h,st=>by
  obtain⟨so,g,rest,X,e2,Y,e4,rfl⟩:=eG ht
  have N:ops[k]? =some o:=by have:=hl 0;simpa using this.symm
  have an:∀j,l[j]? =ops[k+1+j]? :=λj=>by have:=hl (j+1);simpa[Nat.add_assoc,Nat.add_comm 1 j]using this
  simp only[iP,Bool.and_eq_true]at M;obtain⟨ad,al⟩:=M
  have next:∀env σ a w,srun G P rest env σ K->St G ρ w0 σ0 n env σ a w->wpAny P .any ops Q l.length (D.setIfInBounds k true) a w:=
   λenv σ a w h st=>kz J hQ hK l rest (k+1) _ env σ a w an e4 al h st
  have go:∀env,aop G P so env σ (λr σ'=>srun G P rest (env.put o.dst r) σ' K)->St G ρ w0 σ0 n env σ a w->Region.wanted o (yielded ops a.tmps)=true->wpAny P .any ops Q (l.length+1) D a w:=by
   intro env h st hw
   rcases Bool.or_eq_true _ _ ▸ ad with F|F
   ·simp only[Bool.and_eq_true]at F;obtain⟨O,aw,bb⟩:=F
    have X:ci P o.op=some so:=X.resolve_right λe=>by
     rcases e with e|⟨_,_,_,_,_,e⟩<;>(rw[e]at O;exact absurd O (by simp[SOp.slot]))
    rw[mK O]at h;obtain⟨r,u,T,I,ah⟩:=d4 rfl X rfl st.sat st.env h;refine wpAny_take N J aw bb (λc a w h=>(hQ _ _ _ h).elim) (v:=u) (.inl ⟨hw,λw'=>ah w' (λc=>by rw[gJ X O]at c;cases c)⟩) ?_
    exact next _ _ _ _ T (st.put Y st.sat (Ev.refl σ w) I)
   ·have F:Region.ready .any ops D=[k]:=by simpa using F
    refine wpAny_all F (by simp) λi hi=>?_
    have hi:i=k:=by simpa using hi
    subst hi;unfold wpOp;simp only[N];rw[if_pos hw];refine .inl ?_;refine X.elim (λX=>ik rfl X st.sat st.env h λv r σ' w' T F he I=>next _ _ _ _ T (st.put Y F he I)) λe=>?_
    rcases e with e|⟨t,x,m,ho,hm,e⟩
    rotate_left
    ·rw[e]at h
     exact oh (n:=m) (K:=λr σ'=>srun G P rest (env.put o.dst r) σ' K) ho st.sat st.env h λv r σ' w' T F he I=>next _ _ _ _ T (st.put Y F he I)
    rw[e]at h;obtain⟨v,w',r,σ',I,T,F,he,V⟩:=h ρ w a o rfl st.sat st.env
    rcases I with I|⟨I,rfl⟩
    ·exact ca I (next _ _ _ _ T (st.put Y F he V))
    ·exact fu I (next _ _ _ _ T (st.put Y F he V))
  have skip:∀env,srun G P rest (env.put o.dst aG) σ K->St G ρ w0 σ0 n env σ a w->Region.wanted o (yielded ops a.tmps)=false->wpAny P .any ops Q (l.length+1) D a w:=by
   intro env h st hw
   have hn:=next _ _ _ _ h (st.put Y st.sat (Ev.refl σ w) (cJ _ w))
   rcases Bool.or_eq_true _ _ ▸ ad with F|F
   ·simp only[Bool.and_eq_true]at F;exact wpAny_take N J F.2.1 F.2.2 (λc a w h=>(hQ _ _ _ h).elim) (v:=undef) (.inr ⟨hw,rfl⟩) hn
   ·have F:Region.ready .any ops D=[k]:=by simpa using F
    refine wpAny_all F (by simp) λi hi=>?_
    have hi:i=k:=by simpa using hi
    subst hi;unfold wpOp;simp only[N,hw];exact hn
  cases hg:o.guard with
  |none=>
   rw[hg]at e2
   cases e2
   exact go env h st (dj hg)
  |some jb=>
   obtain⟨j,E⟩:=jb;rw[hg]at e2;obtain⟨d,M,rfl⟩:=bV e2;have h:gd (env.get d) E (aop G P so (env.set d (.bool E)) σ λr σ'=>srun G P rest ((env.set d (.bool E)).put o.dst r) σ' K)
    (srun G P rest ((env.set d (.bool (!E))).put o.dst aG) σ K) (srun G P rest (env.put o.dst aG) σ K):=h
   unfold gd at h;split at h
   ·rename_i b Z;by_cases ac:b=E
    ·subst ac;exact go _ (h.1 rfl) (st.set Z) (by rw[bN hg M st.env Z];simp)
    ·have aa:b= !E:=by cases b<;>cases E<;>simp_all
     exact skip _ (h.2 aa) (st.set (by rw[Z,aa])) (by rw[bN hg M st.env Z];simpa using ac)
   ·rename_i Z;exact skip _ h st (cS hg M st.env Z)
   ·exact h.elim
def swp_sound {keep:Nat->List Nat×Bool}:∀(c:Code) (s:SCode) (_:trans P n keep c=some s) (QA:Exit->Env->Store->Prop) (Q:Exit->Act->World->Prop)
  (_:∀e env σ a w,QA e env σ->St G ρ w0 σ0 n env σ a w->Q e a w) (env:Env) (σ:Store) (a:Act) (w:World),swp G P s QA env σ->St G ρ w0 σ0 n env σ a w->c.wp P Q a w:=by
 intro c
 induction c with
 |skip=>intro s M QA Q F env σ a w h st;cases M;exact wp_skip (F _ _ _ _ _ h st)
 |exit id=>intro s M QA Q F env σ a w h st;cases M;exact wp_exit (F _ _ _ _ _ h st)
 |ret=>intro s M QA Q F env σ a w h st;cases M;exact wp_ret (F _ _ _ _ _ h st)
 |region id ops draws=>
  intro s M QA Q F env σ a w h st
  cases draws with
  |false=>
   have M:((cI P n (λd=>(keep (2000000+d)).2) ops ops.toList).map λN=>if (keep id).2 then SCode.ghost N (keep id).1 else SCode.region N (keep id).1)=some s:=M;obtain⟨N,V,rfl⟩:=Option.map_eq_some_iff.1 M;by_cases hk:(keep id).2=true
   ·rw[if_pos hk]at h;have h:srun G P N env σ λenv σ=>∃E σ',Weak G (env.keep (keep id).1) σ E σ'/\QA .normal E σ':=h;refine wp_region_list (dE ?_ _ _ _ _ _ _ V h st);rintro env σ a w ⟨E,σ',hw,D⟩ st;exact F _ _ _ _ _ D ((st.keep _).weak hw)
   ·rw[if_neg hk]at h;have h:srun G P N env σ λenv σ=>QA .normal (env.keep (keep id).1) σ:=h;refine wp_region_list (dE ?_ _ _ _ _ _ _ V h st);intro env σ a w D st;exact F _ _ _ _ _ D (st.keep _)
  |true=>
   have M:((cI P n (λd=>(keep (2000000+d)).2) ops ops.toList).map λN=>
    if P.follows .mixedOrders&&(Region.noSelect ops&&iP ops N 0 (Array.replicate ops.size false))then SCode.drawL N (keep id).1
    else match (if P.follows .mixedOrders&&Region.noSelect ops then mz P n (λd=>(keep (2000000+d)).2) ops ops.size (Array.replicate ops.size false) (lb (λd=>(keep (2000000+d)).2) ops.toList)else none)with
     |some sl=>.drawL sl (keep id).1
     |none=>if (P.follows .mixedOrders&&Region.lexB .any ops)&&N.all (λso=>quietOp so.op)then .draw N (keep id).1 else
      match (if P.follows .mixedOrders&&Region.noSelect ops then mb P n (λd=>(keep (2000000+d)).2) ops ops.size (Array.replicate ops.size false) (lb (λd=>(keep (2000000+d)).2) ops.toList)else none)with
      |some t=>.drawT t (keep id).1
      |none=>.bad)=some s:=M
   obtain⟨N,V,X⟩:=Option.map_eq_some_iff.1 M;have J:Ev σ w σ {w with drawn:=w.drawn+1}:=Ev.drew;split at X
   ·rename_i T;subst X;simp only[Bool.and_eq_true]at T;have h:srun G P N env σ λenv σ=>QA .normal (env.keep (keep id).1) σ:=h;have O:St G ρ w0 σ0 n env σ a {w with drawn:=w.drawn+1}:=⟨st.sat.step J st.sat.nodup_left (λb hb=>.inl hb) (λb x Y=>(st.sat.obj b x (mem_append.2 (.inl Y))).keep J rfl),st.ev.trans J,λj=>Rep.ev J _ _ (st.env j),st.size,st.defers⟩;refine wp_mono (Q:=λe a w=>(∀c,e≠ .panic c)/\Q e a w) (wp_region_any T.1 ?_) (λ_ _ _ h=>h.2);have:=kz (Q:=λe a w=>(∀c,e≠ .panic c)/\Q e a w) (K:=λenv σ=>QA .normal (env.keep (keep id).1) σ) T.2.1 (λc a w h=>h.1 c rfl)
     (λenv σ a w D st=>⟨(by intro c h;cases h),F _ _ _ _ _ D (st.keep _)⟩) ops.toList N 0 (Array.replicate ops.size false) env σ a _ (by simp) V T.2.2 h O
    simpa using this
   ·split at X
    ·rename_i sl al;subst X;split at al
     rotate_left
     ·cases al
     rename_i T;simp only[Bool.and_eq_true]at T;have h:srun G P sl env σ λenv σ=>QA .normal (env.keep (keep id).1) σ:=h;have O:St G ρ w0 σ0 n env σ a {w with drawn:=w.drawn+1}:=⟨st.sat.step J st.sat.nodup_left (λb hb=>.inl hb) (λb x Y=>(st.sat.obj b x (mem_append.2 (.inl Y))).keep J rfl),st.ev.trans J,λj=>Rep.ev J _ _ (st.env j),st.size,st.defers⟩;have Z:St G ρ {w with drawn:=w.drawn+1} σ n env σ a {w with drawn:=w.drawn+1}:={O with ev:=Ev.refl _ _};refine wp_mono (Q:=λe a w=>(∀c,e≠ .panic c)/\Q e a w) (wp_region_held (S:=cl σ {w with drawn:=w.drawn+1}) T.1 ?_) (λ_ _ _ h=>h.2);exact fE (Q:=λe a w=>(∀c,e≠ .panic c)/\Q e a w) (K:=λenv σ=>QA .normal (env.keep (keep id).1) σ) T.2 (λc a w h=>h.1 c rfl)
      (λenv σ' a w' D aa=>⟨(by intro c h;cases h),F _ _ _ _ _ D (({aa with ev:=O.ev.trans aa.ev}:St G ρ w0 σ0 n env σ' a w').keep _)⟩) O.sat ops.size _ _ sl env σ a _ al h Z (λj _=>Z.env j)
    split at X
    ·rename_i T;subst X;simp only[Bool.and_eq_true]at T;have T:=T.1;have h:qrun G P N env σ λenv=>QA .normal (env.keep (keep id).1) σ:=h;refine wp_region_quiet (C:=QC G σ ρ w) T.1 T.2 ⟨st.sat.step J st.sat.nodup_left (λb hb=>.inl hb) (λb x Y=>?_),J,Nat.le_refl _,λ_ _=>rfl⟩ ?_
     ·exact(st.sat.obj b x (mem_append.2 (.inl Y))).keep J rfl
     ·refine i7 (Q:=λa'=>∀w',QC G σ ρ w w'->Q .normal a' w') ?_ st.sat _ _ _ _ V h st.env st.size st.defers;intro E a' hk hE X hd w' hC;have O:St G ρ w0 σ0 n E σ a' w':=⟨hC.1,st.ev.trans hC.2.1,λj=>Rep.ev hC.2.1 _ _ (hE j),X,hd⟩;exact F _ _ _ _ _ hk (O.keep _)
    split at X
    ·rename_i tr an;subst X;split at an
     rotate_left
     ·cases an
     rename_i T;simp only[Bool.and_eq_true]at T;have h:trun G P tr env σ λenv σ=>∃E σ',Weak G (env.keep (keep id).1) σ E σ'/\QA .normal E σ':=h;have O:St G ρ w0 σ0 n env σ a {w with drawn:=w.drawn+1}:=⟨st.sat.step J st.sat.nodup_left (λb hb=>.inl hb) (λb x Y=>(st.sat.obj b x (mem_append.2 (.inl Y))).keep J rfl),st.ev.trans J,λj=>Rep.ev J _ _ (st.env j),st.size,st.defers⟩;have Z:St G ρ {w with drawn:=w.drawn+1} σ n env σ a {w with drawn:=w.drawn+1}:={O with ev:=Ev.refl _ _};refine wp_mono (Q:=λe a w=>(∀c,e≠ .panic c)/\Q e a w) (wp_region_held (S:=cl σ {w with drawn:=w.drawn+1}) T.1 ?_) (λ_ _ _ h=>h.2);exact fJ (Q:=λe a w=>(∀c,e≠ .panic c)/\Q e a w) (K:=λenv σ=>∃E σ',Weak G (env.keep (keep id).1) σ E σ'/\QA .normal E σ') T.2 (λc a w h=>h.1 c rfl)
      (λenv σ' a w' D aa=>⟨(by intro c h;cases h),by
       obtain⟨E,ad,hw,D⟩:=D
       exact F _ _ _ _ _ D ((({aa with ev:=O.ev.trans aa.ev}:St G ρ w0 σ0 n env σ' a w').keep _).weak hw)⟩) O.sat ops.size _ _ tr env σ a _ an h Z (λj _=>Z.env j)
    ·subst X;exact h.elim
 |seq x y ihx ihy=>
  intro s M QA Q F env σ a w h st;simp only[trans]at M;split at M
  ·rename_i sx sy V h2
   cases M
   refine wp_seq (ihx _ V _ _ ?_ _ _ _ _ h st);intro e env σ a w D st
   cases e with
   |normal=>exact ihy _ h2 _ _ F _ _ _ _ D st
   |exit id=>exact F (.exit id) _ _ _ _ D st
   |goto l=>exact F (.goto l) _ _ _ _ D st
   |ret=>exact F .ret _ _ _ _ D st
   |panic c=>exact F (.panic c) _ _ _ _ D st
   |outgrown=>exact F .outgrown _ _ _ _ D st
  ·cases M
 |cond x y z ihy ihz=>
  intro s M QA Q F env σ a w h st;simp only[trans]at M;split at M
  ·rename_i sx sy V h2
   cases M
   simp only[swp]at h;split at h
   ·rename_i t he;have Y:=au (G:=G) st.sat st.env x;rw[he]at Y;simp only[Rep]at Y;exact wp_cond_split Y (λe=>ihy _ V _ _ F _ _ _ _ (h.1 e) st) (λe=>ihz _ h2 _ _ F _ _ _ _ (h.2 e) st)
   ·exact h.elim
  ·cases M
 |block id x ih=>
  intro s M QA Q F env σ a w h st;simp only[trans]at M;obtain⟨sx,V,rfl⟩:=Option.map_eq_some_iff.1 M;have h:swp G P sx (k7 id (fT (λenv σ=>QA .normal (env.keep (keep (id+1000000)).1) σ) QA)) env σ:=h;refine wp_block (ih _ V _ _ ?_ _ _ _ _ h st);intro e env σ a w D st
  cases e with
  |normal=>exact F .normal _ _ _ _ D (st.keep _)
  |exit id'=>
   by_cases hid:id'=id
   ·subst hid
    have D:QA .normal (env.keep (keep (id'+1000000)).1) σ:=by
     have D:(if id'=id' then QA .normal (env.keep (keep (id'+1000000)).1) σ else QA (.exit id') env σ):=D;rwa [if_pos rfl]at D
    show if id'=id' then Q .normal a w else Q (.exit id') a w
    rw[if_pos rfl];exact F _ _ _ _ _ D (st.keep _)
   ·have D:QA (.exit id') env σ:=by
     have D:(if id'=id then QA .normal (env.keep (keep (id+1000000)).1) σ else QA (.exit id') env σ):=D;rwa [if_neg hid]at D
    show if id'=id then Q .normal a w else Q (.exit id') a w
    rw[if_neg hid];exact F _ _ _ _ _ D st
  |goto l=>exact F (.goto l) _ _ _ _ D st
  |ret=>exact F .ret _ _ _ _ D st
  |panic c=>exact F (.panic c) _ _ _ _ D st
  |outgrown=>exact F .outgrown _ _ _ _ D st
 |loop x ih=>
  intro s M QA Q F env σ a w h st;simp only[trans]at M;obtain⟨sx,V,rfl⟩:=Option.map_eq_some_iff.1 M;obtain⟨I,k,aw,bb,hI,hw,ac⟩:=h;refine wp_loop_ghost (λk a w=>∃env σ,I k env σ/\St G ρ w0 σ0 n env σ a w) k ⟨aw,bb,hI,st.weak hw⟩ ?_;rintro k a w ⟨env,σ,hI,st⟩;refine ih _ V _ _ ?_ _ _ _ _ (ac k env σ hI) st;intro e env σ a w D st
  cases e with
  |normal=>
   obtain⟨m,ah,ad,hm,hI,hw⟩:=D;exact⟨m,hm,ah,ad,hI,st.weak hw⟩
  |exit id=>exact F (.exit id) _ _ _ _ D st
  |goto l=>exact F (.goto l) _ _ _ _ D st
  |ret=>exact F .ret _ _ _ _ D st
  |panic c=>exact F (.panic c) _ _ _ _ D st
  |outgrown=>exact F .outgrown _ _ _ _ D st
 |_=>intro s M QA Q F env σ a w h st;cases M;exact h.elim
/-! ### a function -/
def fm (P:Program):List ResultVar->Option (List (Nat×Option (Bool×Nat)))
 |[]=>some []
 | .tmp t::rs=>(fm P rs).map ((t,none):: ·)
 | .cell a t::rs=>match P.underlying t,bC P t with
  |some d,some n=>if aggD d||n==1 then (fm P rs).map ((a,some (aggD d,n)):: ·)else none
  |_,_=>none
def cT:List AV->AV
 |[x]=>x
 |xs=>.tup xs
def retX:List (Nat×Option (Bool×Nat))->Env->Store->(List AV->Prop)->Prop
 |[],_,_,K=>K []
 |(t,none)::rs,env,σ,K=>retX rs env σ λxs=>K (env.get t::xs)
 |(t,some (agg,n))::rs,env,σ,K=>nk σ agg n (env.get t) λx=>retX rs env σ λxs=>K (x::xs)
def RET (r:AV) (σ:Store) (R:AV->Store->Prop):Prop:=∃D σ',AVle r D/\SubN σ' σ/\R D σ'
def retQ (D:List (Nat×Option (Bool×Nat))) (R:AV->Store->Prop):Exit->Env->Store->Prop
 | .normal,env,σ=>retX D env σ λxs=>RET (cT xs) σ R
 | .ret,env,σ=>retX D env σ λxs=>RET (cT xs) σ R
 |_,_,_=>False
def dA:Nat->List AV->Env
 |_,[]=>[]
 |i,x::xs=>(i,x)::dA (i+1) xs
def mi:∀(i:Nat) (xs:List AV) (j:Nat),(dA i xs).get j=if i<=j then xs.getD (j-i) .any else .any
 |i,[],j=>by simp[dA,Env.get]
 |i,x::xs,j=>by
  simp only[dA,Env.get];by_cases h:i=j
  ·subst h;simp
  ·rw[if_neg h,mi];by_cases D:i<=j
   ·have E:i+1<=j:=by omega
    rw[if_pos D,if_pos E,show j-i=(j-(i+1))+1 by omega,getD_cons_succ]
   ·rw[if_neg D,if_neg (by omega)]
def qH {τ:Store} {w:World} {args:List AV} {vs:Array Value} (k:Nat) (h:RepL τ w args vs.toList) (j:Nat):
  Rep τ w ((dA 0 args).get j) ((vs++Array.replicate k undef).getD j undef):=by
 rw[mi,if_pos (Nat.zero_le j),Nat.sub_zero]
 by_cases D:j<args.length
 ·have M:=h.length
  have J:=h.get j D
  have F:j<vs.size:=by simpa[←M]using D
  have E:args.getD j .any=args[j]:=by simp[D]
  have I:(vs++Array.replicate k undef).getD j undef=vs.toList[j]'(by simpa using F):=by
   rw[Array.getD_eq_getD_getElem?,Array.getElem?_append_left F];simp[F]
  rw[E,I];exact J _
 ·have E:args.getD j .any= .any:=by simp[Nat.not_lt.1 D]
  rw[E];simp only[Rep]
def ln (tmps:Array Value):ResultVar->Sem Value
 | .tmp t=>pure (tmps.getD t undef)
 | .cell a t=>do loadVar t (←asAddr (tmps.getD a undef))
def oI {σ:Store} {w:World} {env:Env} {a:Act} (N:Sat G (σ++ρ) w) (I:∀j,Rep (σ++ρ) w (env.get j) (a.tmps.getD j undef)):∀{J:List ResultVar} {F:List (Nat×Option (Bool×Nat))},fm P J=some F->
  ∀{K:List AV->Prop},retX F env σ K->∃xs vs,K xs/\RepL (σ++ρ) w xs vs/\(J.mapM (ln a.tmps)).run P w= .ok vs w
 |[],F,h,K,hK=>by cases h;exact⟨[],[],hK,by simp[RepL],by simp⟩
 | .tmp t::J,F,h,K,hK=>by
  simp only[fm]at h;obtain⟨X,M,rfl⟩:=Option.map_eq_some_iff.1 h;simp only[retX]at hK;obtain⟨xs,vs,E,T,D⟩:=oI N I M hK;exact⟨env.get t::xs,a.tmps.getD t undef::vs,E,by simp only[RepL];exact⟨_,_,rfl,I t,T⟩,by simp[mapM_cons,ln,D]⟩
 | .cell c t::J,F,h,K,hK=>by
  simp only[fm]at h;split at h
  ·rename_i d n hu Z;split at h
   ·rename_i Y;obtain⟨X,M,rfl⟩:=Option.map_eq_some_iff.1 h;simp only[retX]at hK;obtain⟨ad,r,v,hp,E,T,O⟩:=pz hu Z Y rfl N (I c) hK;obtain⟨xs,vs,E,V,D⟩:=oI N I M E;refine⟨r::xs,v::vs,E,by simp only[RepL];exact⟨_,_,rfl,T,V⟩,?_⟩;simp only[mapM_cons,ln,hp,Sem.run_bind,asAddr,Sem.run_pure,Result.andThen_ok,O w (Same.refl w),D]
   ·cases h
  ·cases h
def eh:List Value->Value
 |[v]=>v
 |vs=>.tuple vs.toArray
def pU {fn:Func} {tmps:Array Value} {P:Program} {w:World} {vs:List Value} (D:(fn.results.toList.mapM (ln tmps)).run P w= .ok vs w):
  (results fn tmps).run P w= .ok (eh vs) w:=by
 have E:results fn tmps=(do
   let vs ←fn.results.mapM (ln tmps)
   pure (if h:vs.size=1 then vs[0]else .tuple vs)):=rfl
 rw[E,Array.mapM_eq_mapM_toList,map_eq_pure_bind,bind_assoc,Sem.run_bind,D]
 match vs with
 |[]=>simp[eh]
 |[t]=>simp[eh]
 |t::t'::ts=>simp[eh]
def om {τ:Store} {w:World} {xs:List AV} {vs:List Value} (h:RepL τ w xs vs):Rep τ w (cT xs) (eh vs):=by
 match xs,vs with
 |[],[]=>simp only[cT,Rep];exact⟨_,rfl,h⟩
 |[x],[v]=>simp only[cT,eh];simp only[RepL]at h;obtain⟨u,us,e,D,_⟩:=h;cases e;exact D
 |x::y::xs,u::v::vs=>simp only[cT,Rep];exact⟨_,rfl,h⟩
 |[],v::vs=>simp[RepL]at h
 |[x],[]=>simp[RepL]at h
 |[x],u::v::vs=>simp[RepL]at h
 |x::y::xs,[]=>simp[RepL]at h
 |x::y::xs,[v]=>
  simp only[RepL]at h;obtain⟨u,us,e,_,F,E,e',_⟩:=h
  cases e
  cases e'
def aj.intro {k:FuncId} {fn:Func} {c:Code} {s:SCode} {keep:Nat->List Nat×Bool} {args:List AV} {σ:Store} {R:AV->Store->Prop} {T:List (Nat×Option (Bool×Nat))}
  (Y:P.funcs[k]? =some fn) (hn:(fn.name== "runtime.NumGoroutine")=false) (X:fn.body=some c) (hr:fm P fn.results.toList=some T)
  (ht:trans P fn.ntmps keep c=some s) (h:swp G P s (retQ T R) (dA 0 args) σ):aj G P k args σ R:=by
 refine⟨⟨fn,Y,hn,by rw[X];rfl⟩,λρ w vs hS Z=>calls_of_wp Y X ?_⟩
 have st:St G ρ w σ fn.ntmps (dA 0 args) σ {tmps:=vs++Array.replicate (fn.ntmps-vs.size) undef,defers:=[]} w:=
  ⟨hS,Ev.refl σ w,qH _ Z,by simp;omega,rfl⟩
 refine swp_sound c s ht _ _ ?_ _ _ _ _ h st
 have F:∀env σ' a w',(retX T env σ' λxs=>RET (cT xs) σ' R)->St G ρ w σ fn.ntmps env σ' a w'->
   a.defers=[]/\∃v,(results fn a.tmps).run P w'= .ok v w'/\(∃N r D,Ending.returned v=Ending.returned N/\R r D/\Sat G (D++ρ) w'/\Ev σ w D w'/\Rep (D++ρ) w' r N):=by
  intro env σ' a w' I st
  obtain⟨xs,aa,⟨r',V,O,E,hR⟩,J,M⟩:=oI st.sat st.env hr I
  refine⟨st.defers,_,pU M,_,r',V,rfl,hR,st.sat.subN E,st.ev.trans (rN E.1 _),?_⟩
  exact O.rep (Rep.ev (rN E.1 w') _ _ (om J))
 intro e env σ' a w' I st
 cases e with
 |normal=>exact F _ _ _ _ I st
 |ret=>exact F _ _ _ _ I st
 |_=>exact I.elim
end
/-! ### slots still read -/
def insN (n:Nat):List Nat->List Nat
 |[]=>[n]
 |m::l=>if n<m then n::m::l else if n==m then m::l else m::insN n l
def uniN (xs ys:List Nat):List Nat:=xs.foldr insN ys
def delN (d:Option Nat) (l:List Nat):List Nat:=match d with
 |none=>l
 |some d=>l.filter λm=>!(m==d)
def opdR:Operand->List Nat
 | .tmp t=>[t]
 |_=>[]
def opdsR (xs:List Operand):List Nat:=xs.flatMap opdR
def opR (op:Op):List Nat:=opdsR op.operands.toList
def opersR (ops:Array Oper):List Oper->List Nat->List Nat
 |[],l=>l
 |o::rest,l=>uniN (opR o.op++(match o.guard with
  |none=>[]
  |some (j,_)=>(((ops[j]?).bind (·.dst)).map λd=>[d]).getD [])) (delN o.dst (opersR ops rest l))
def exitR (es:List (Nat×List Nat)) (id:Nat):List Nat:=((es.find? λp=>p.1==id).map (·.2)).getD []
def kI (ret:List Nat):Code->List (Nat×List Nat)->List Nat->List Nat×List (Nat×List Nat)
 | .skip,_,l=>(l,[])
 | .region id ops _,_,l=>(opersR ops ops.toList l,[(id,l)])
 | .seq a b,es,l=>
  let E:=kI ret b es l;let D:=kI ret a es E.1;(D.1,D.2++E.2)
 | .cond c a b,es,l=>
  let D:=kI ret a es l;let E:=kI ret b es l;(uniN (opdR c) (uniN D.1 E.1),D.2++E.2)
 | .block id a,es,l=>
  let r:=kI ret a ((id,l)::es) l;(r.1,(id+1000000,l)::r.2)
 | .loop a,es,_=>
  let r:=kI ret a es [];kI ret a es r.1
 | .exit id,es,_=>(exitR es id,[])
 | .ret,_,_=>(ret,[])
 |_,_,l=>(l,[])
def keepOf (g:List Nat) (ks:List (Nat×List Nat)) (id:Nat):List Nat×Bool:=(exitR ks id,g.contains id)
def mQ (P:Program) (g:List Nat) (fn:Func):Option (List (Nat×Option (Bool×Nat))×SCode):=
 if fn.name== "runtime.NumGoroutine" then none else
 match fn.body,fm P fn.results.toList with
 |some c,some ts=>(trans P fn.ntmps (keepOf g (kI (ts.foldr (λp l=>insN p.1 l) []) c [] (ts.foldr (λp l=>insN p.1 l) [])).2) c).map (ts,·)
 |_,_=>none
def fnAt (P:Program) (k:Nat) (g:List Nat):Option (List (Nat×Option (Bool×Nat))×SCode):=(P.funcs[k]?).bind (mQ P g)
def aj.at {G:Glob} {P:Program} {k:Nat} {g:List Nat} {F:List (Nat×Option (Bool×Nat))} {s:SCode} {args:List AV} {σ:Store} {R:AV->Store->Prop} (D:fnAt P k g=some (F,s))
  (h:swp G P s (retQ F R) (dA 0 args) σ):aj G P k args σ R:=by
 unfold fnAt at D
 cases E:P.funcs[k]? with
 |none=>rw[E]at D;cases D
 |some fn=>
  rw[E]at D;have D:mQ P g fn=some (F,s):=D;unfold mQ at D;split at D
  ·cases D
  ·rename_i M;split at D
   ·rename_i c T I N;obtain⟨V,O,J⟩:=Option.map_eq_some_iff.1 D
    cases J
    exact aj.intro E (by simpa using M) I N O h
   ·cases D
section
variable {G:Glob} {P:Program} {env:Env} {σ:Store} {R:AV->Store->Prop} {KL:List AV->Prop} {tL:Tag KL}
def RX (D:List (Nat×Option (Bool×Nat))) (env:Env) (σ:Store) (K:List AV->Prop) (_t:Tag K):Prop:=retX D env σ K
def retQ_ret {D:List (Nat×Option (Bool×Nat))}:retQ D R .ret env σ=RX D env σ (λxs=>RET (cT xs) σ R) ⟨⟩:=(rfl)
def qe {D:List (Nat×Option (Bool×Nat))}:retQ D R .normal env σ=RX D env σ (λxs=>RET (cT xs) σ R) ⟨⟩:=(rfl)
def RX_nil:RX [] env σ KL tL=KL []:=(rfl)
def RX_tmp {t:Nat} {D:List (Nat×Option (Bool×Nat))}:RX ((t,none)::D) env σ KL tL=RX D env σ (λxs=>KL (env.get t::xs)) ⟨⟩:=(rfl)
def RX_cell {t n:Nat} {agg:Bool} {D:List (Nat×Option (Bool×Nat))}:
  RX ((t,some (agg,n))::D) env σ KL tL=lL σ agg n (env.get t) (λx=>RX D env σ (λxs=>KL (x::xs)) ⟨⟩) ⟨⟩:=(rfl)
def one_nil:cT []= .tup []:=(rfl)
def one_one {x:AV}:cT [x]=x:=(rfl)
def one_two {x y:AV} {xs:List AV}:cT (x::y::xs)= .tup (x::y::xs):=(rfl)
def rC {i:Nat}:dA i []=[]:=(rfl)
def pF {i:Nat} {x:AV} {xs:List AV}:dA i (x::xs)=(i,x)::dA (i+1) xs:=(rfl)
def aj.w {k:Nat} {g:List Nat} {D:List (Nat×Option (Bool×Nat))} {s:SCode} {args:List AV} (E:fnAt P k g=some (D,s))
  (h:W G P s (retQ D R) (dA 0 args) σ ⟨⟩):aj G P k args σ R:=aj.at E h
def Pure.w {k:Nat} {g:List Nat} {D:List (Nat×Option (Bool×Nat))} {s:SCode} {args:List AV} {r:AV} (E:fnAt P k g=some (D,s))
  (h:∀R:AV->Store->Prop,(∀x σ,AVle x r->RET x σ R)->W G P s (retQ D R) (dA 0 args) [] ⟨⟩):Pure G P k args r:=
 aj.at (R:=λx σ=>x=r/\σ=[]) E (h (λx σ=>x=r/\σ=[]) λ_ σ I=>⟨r,[],I,⟨(λp F=>by cases F),λ_=>nodup_nil⟩,⟨rfl,rfl⟩⟩)
def RET.eq {x:AV} {r:AV} {R:AV->Store->Prop} {σ:Store} (D:∀x σ,AVle x r->RET x σ R) (h:x=r):RET x σ R:=D _ _ (h ▸ rW _)
def RQ {r:AV} {R:AV->Store->Prop} (D:∀x σ,AVle x r->RET x σ R) {σ:Store}:RET r σ R:=D _ _ (.inl (.inl rfl))
end
section
variable {G:Glob} {P:Program}
def Ev.below {w w':World} (h:Below w.heap.size w w'):Ev [] w [] w' where
 os:=h.os
 tape:=h.tape
 output:=h.output
 size:=h.size
 block b D _:=⟨h.block b D,by simp[Store.keys]⟩
 shape b s hs:=by
  have D:b<w.heap.size:=by
   unfold World.shape? at hs
   cases E:w.heap[b]? with
   |none=>simp[E]at hs
   |some o=>exact(Array.getElem?_eq_some_iff.1 E).1
  unfold World.shape? at*;rw[h.block b D];exact hs
 cell a v hv _:=by
  have D:=fA hv;refine⟨?_,λm=>by obtain⟨x,E,_⟩:=m;simp at E⟩;rw[World.cell?_of_block (w:=w) (h.block a.block D)];exact hv
def Sat.below {ρ:Store} {w w':World} (D:Sat G ρ w) (h:Below w.heap.size w w'):Sat G ρ w':=by
 have:=Sat.step (σ:=[]) (σ':=[]) (ρ:=ρ) (by simpa using D) (Ev.below h) (by simp[Store.keys]) (by simp[Store.keys]) (by simp);simpa using this
def sn {k:FuncId} {fn:Func} {args:List AV} {r:AV} (N:P.funcs[k]? =some fn) (O:(fn.name== "runtime.NumGoroutine")=false) (J:fn.body.isNone=false)
  (h:∀(τ:Store) (w:World) (vs:Array Value),Sat G τ w->RepL τ w args vs.toList->∃v,(∀D w',Rep D w' r v)/\Calls P k vs w λe w'=>e= .returned v/\Below w.heap.size w w'):Pure G P k args r:=
 ⟨⟨fn,N,O,J⟩,λρ w vs F I=>by
  obtain⟨v,T,M⟩:=h _ w vs F I
  refine M.mono ?_
  rintro e w' ⟨rfl,E⟩
  exact⟨v,r,[],rfl,⟨rfl,rfl⟩,by simpa using Sat.below (by simpa using F) E,Ev.below E,T _ _⟩⟩
def gT {τ:Store} {w:World} {x y:AV} {vs:Array Value} (h:RepL τ w [x,y] vs.toList):∃u v,vs=#[u,v]/\Rep τ w x u/\Rep τ w y v:=by
 simp only[RepL]at h;obtain⟨u,us,D,E,v,M,F,I,J⟩:=h;subst J F;exact⟨u,v,by apply Array.ext';simpa using D,E,I⟩
def vs_one {τ:Store} {w:World} {x:AV} {vs:Array Value} (h:RepL τ w [x] vs.toList):∃u,vs=#[u]/\Rep τ w x u:=by
 simp only[RepL]at h;obtain⟨u,us,D,E,F⟩:=h;subst F;exact⟨u,by apply Array.ext';simpa using D,E⟩
def dS {op:Op} {env:Env} {σ:Store} {K:AV->Store->Prop} (r:AV)
  (h:∀(ρ:Store) (w:World) (a:Act) (o:Oper),o.op=op->Sat G (σ++ρ) w->(∀j,Rep (σ++ρ) w (env.get j) (a.tmps.getD j undef))->∃v,(execOp a.eval o).run P w= .ok (.value v) w/\Rep (σ++ρ) w r v) (F:K r σ):RAW G P op env σ K ⟨⟩:=by
 intro ρ w a o I D E
 obtain⟨v,J,M⟩:=h ρ w a o I D E
 exact⟨v,w,r,σ,.inl J,F,D,Ev.refl σ w,M⟩
end
def StLe:Store->Store->Prop
 |[],[]=>True
 |(b,.cells e cs)::σ,(b',.cells e' cs')::σ'=>b=b'/\e=e'/\aW cs cs'/\StLe σ σ'
 |(b,x)::σ,(b',x')::σ'=>b=b'/\x=x'/\StLe σ σ'
 |_,_=>False
def StLe.keys:∀{σ σ':Store},StLe σ σ'->σ'.keys=σ.keys
 |[],[],_=>rfl
 |(b,.cells e cs)::σ,(b',.cells e' cs')::σ',h=>by
  obtain⟨rfl,_,_,h⟩:=h;have:=StLe.keys h;simp only[Store.keys]at this;simp[Store.keys,this]
 |(b,.tok e k)::σ,(b',x')::σ',h=>by
  have h:b=b'/\_/\StLe σ σ':=h;have:=StLe.keys h.2.2;simp only[Store.keys]at this;simp[Store.keys,this,h.1]
 |(b,.map es)::σ,(b',x')::σ',h=>by
  have h:b=b'/\_/\StLe σ σ':=h;have:=StLe.keys h.2.2;simp only[Store.keys]at this;simp[Store.keys,this,h.1]
 |(b,.cells e cs)::σ,(b',.tok _ _)::σ',h=>by
  have h:b=b'/\_/\StLe σ σ':=h
  cases h.2.1
 |(b,.cells e cs)::σ,(b',.map _)::σ',h=>by
  have h:b=b'/\_/\StLe σ σ':=h
  cases h.2.1
 |[],_::_,h=>h.elim
 |(_,.cells _ _)::_,[],h=>h.elim
 |(_,.tok _ _)::_,[],h=>h.elim
 |(_,.map _)::_,[],h=>h.elim
def StLe.back:∀{σ σ':Store},StLe σ σ'->∀{b:Nat} {D:AObj},(b,D)∈σ'->∃x,(b,x)∈σ/\(x=D\/∃e cs cs',x= .cells e cs/\D= .cells e cs'/\aW cs cs')
 |[],[],_,b,D,h=>by simp at h
 |(b,.cells e cs)::σ,(b',.cells e' cs')::σ',h,c,D,hm=>by
  obtain⟨rfl,rfl,M,h⟩:=h
  rcases mem_cons.1 hm with e1|hm
  ·cases e1
   exact⟨_,mem_cons_self ..,.inr ⟨_,_,_,rfl,rfl,M⟩⟩
  ·obtain⟨x,F,E⟩:=StLe.back h hm;exact⟨x,mem_cons_of_mem _ F,E⟩
 |(b,.tok e k)::σ,(b',y)::σ',h,c,D,hm=>by
  have I:b=b'/\_=y/\StLe σ σ':=h;obtain⟨rfl,rfl,J⟩:=I
  rcases mem_cons.1 hm with e1|hm
  ·cases e1;exact⟨_,mem_cons_self ..,.inl rfl⟩
  ·obtain⟨x,F,E⟩:=StLe.back J hm;exact⟨x,mem_cons_of_mem _ F,E⟩
 |(b,.map es)::σ,(b',y)::σ',h,c,D,hm=>by
  have I:b=b'/\_=y/\StLe σ σ':=h;obtain⟨rfl,rfl,J⟩:=I
  rcases mem_cons.1 hm with e1|hm
  ·cases e1;exact⟨_,mem_cons_self ..,.inl rfl⟩
  ·obtain⟨x,F,E⟩:=StLe.back J hm;exact⟨x,mem_cons_of_mem _ F,E⟩
 |(b,.cells e cs)::σ,(b',.tok _ _)::σ',h,_,_,_=>by
  have h:b=b'/\_/\StLe σ σ':=h
  cases h.2.1
 |(b,.cells e cs)::σ,(b',.map _)::σ',h,_,_,_=>by
  have h:b=b'/\_/\StLe σ σ':=h
  cases h.2.1
 |[],_::_,h,_,_,_=>h.elim
 |(_,.cells _ _)::_,[],h,_,_,_=>h.elim
 |(_,.tok _ _)::_,[],h,_,_,_=>h.elim
 |(_,.map _)::_,[],h,_,_,_=>h.elim
def StLe.mut {σ σ':Store} (h:StLe σ σ') {b o:Nat} (m:Mut σ' b o):Mut σ b o:=by
 obtain⟨I,D,F⟩:=m;obtain⟨x,E,rfl|⟨e,cs,cs',rfl,rfl,_⟩⟩:=h.back D
 ·exact⟨_,E,F⟩
 ·exact⟨_,E,trivial⟩
def StLe.ev {σ σ':Store} (h:StLe σ σ') (w:World):Ev σ w σ' w:=
 ⟨rfl,rfl,rfl,Nat.le_refl _,λ_ _ F=>⟨rfl,λD=>F (by rw[h.keys]at D;exact D)⟩,λ_ _ h=>h,λ_ _ I E=>⟨I,λm=>E (h.mut m)⟩⟩
def StLe.sat {G:Glob} {σ σ' ρ:Store} {w:World} (h:StLe σ σ') (J:Sat G (σ++ρ) w):Sat G (σ'++ρ) w:=by
 refine Sat.step J (h.ev w) ?_ (λb O=>.inl (by rw[h.keys]at O;exact O)) (λb X N=>?_)
 ·have:=J.nodup;rw[aC]at this;rw[h.keys];exact(nodup_append.1 this).1
 ·obtain⟨x,V,M⟩:=h.back N;have I:=J.obj b x (mem_append.2 (.inl V));have ev:∀{xs us},RepL (σ++ρ) w xs us->RepL (σ'++ρ) w xs us:=λM=>RepL.ev (h.ev w) _ _ M
  rcases M with rfl|⟨e,cs,cs',rfl,rfl,T⟩
  ·cases x with
   |cells e cs=>obtain⟨vs,D,E,F⟩:=I;exact⟨vs,D,E,ev F⟩
   |tok e k=>exact I
   |map es=>obtain⟨ents,c,D,E,F⟩:=I;exact⟨ents,c,D,E,ev F⟩
  ·obtain⟨vs,D,E,F⟩:=I;exact⟨vs,D,E,T.rep (ev F)⟩
def Weak.st {G:Glob} {env:Env} {σ σ':Store} (D:StLe σ σ'):Weak G env σ env σ':=λρ w _ F E=>⟨D.sat F,D.ev w,λj=>Rep.ev (D.ev w) _ _ (E j)⟩
def eK (t:List UInt8):List (List AV):=t.map λc=>[.int .u8 c.toNat]
def gA (t:List UInt8):(eK t).length=t.length:=by simp[eK]
def er (σ:Store):Store.erase σ none=σ:=rfl
def nz (x:Nat):Store.erase [] (some x)=[]:=rfl
def lU (k x:Nat) (o:AObj) (σ:Store):Store.erase ((k,o)::σ) (some x)=if k=x then Store.erase σ (some x)else (k,o)::Store.erase σ (some x):=by
 by_cases h:k=x<;>simp[Store.erase,h]
section
variable {G:Glob} {P:Program}
def oe {τ:Store} {w:World} {b:Nat} {l:List UInt8} (h:∀j (D:j<l.length),w.cell? ⟨b,j,none⟩=some (.int .u8 l[j].toNat)/\¬Mut τ b j):aA τ w ⟨b,0,none⟩ 1 0 (eK l):=by
 refine sD λj D=>?_;rw[gA]at D
 have e:(eK l)[j]'(by rw[gA];exact D)=[.int .u8 (l[j]).toNat]:=by simp[eK]
 rw[e];refine⟨rfl,?_⟩;simp only[RepAt];refine⟨⟨.int .u8 l[j].toNat,?_,rfl,by simp only[Rep]⟩,trivial⟩;rw[add_lit];simpa[kF]using h j D
def Sat.setRow {σ ρ:Store} {w:World} {b off:Nat} {e:TypeId} {cs c:List AV} {us:List Value} (J:Sat G (σ++ρ) w) (hg:σ.get b=some (.cells e cs)) (r1:RepL (σ++ρ) w c us) (r2:∀v∈us,v.oneCell'=true)
  (aa:off+c.length<=cs.length):
  ∃vs,w.heap[b]? =some (.cells vs e (0,0))/\vs.size=cs.length/\Ev σ w (σ.set b (.cells e (aJ cs off c))) (w.setRow b (vs.toList.take off++us++vs.toList.drop (off+us.length)).toArray)/\
   Sat G (σ.set b (.cells e (aJ cs off c))++ρ) (w.setRow b (vs.toList.take off++us++vs.toList.drop (off+us.length)).toArray):=by
 have V:=rv hg
 obtain⟨vs,M,T,X⟩:=J.obj b _ (mem_append.2 (.inl V))
 have Y:=X.length
 have Z:=r1.length
 have F:((vs.toList.take off++us++vs.toList.drop (off+us.length)).toArray).size=vs.size:=by simp at Y Z ⊢;omega
 have D:Ev σ w (σ.set b (.cells e (aJ cs off c))) (w.setRow b (vs.toList.take off++us++vs.toList.drop (off+us.length)).toArray):=Ev.setRow V M F
 refine⟨vs,M,by simpa using Y,D,?_⟩
 have I:=J.nodup_left
 refine J.step D (by rw[dV];exact I) (λk hk=>.inl (by rwa [dV]at hk)) ?_
 intro k z O
 rcases kP O I with⟨rfl,rfl⟩|⟨N,O⟩
 ·refine⟨_,setRow_heap w k vs _ e (0,0) M,?_,?_⟩
  ·intro v E;simp only[mem_append]at E
   rcases E with(E|E)|E
   ·exact T v (mem_of_mem_take E)
   ·exact r2 v E
   ·exact T v (mem_of_mem_drop E)
  ·have q1:=RepL.ev D _ _ X;have q2:=RepL.ev D _ _ r1;have e1:=bg cs off c (by omega);generalize (σ.set k (.cells e (aJ cs off c))++ρ:Store)=τ' at*;generalize w.setRow k _=w2 at*;rw[e1];rw[Z];exact RepL.append (RepL.append (RepL.take _ q1) q2) (RepL.drop _ q1)
 ·exact(J.obj k z (mem_append.2 (.inl O))).keep D (setRow_other w b k _ N)
def oH {F dst elem:TypeId} {i:Nat} {l:List UInt8} {env:Env} {σ:Store} {K:AV->Store->Prop} (hi:env.get i= .str l) (Z:l.length<1000000000)
  (hs:P.underlying F=some .string) (hd:P.underlying dst=some (.slice elem)) (he:P.underlying elem=some (.int .u8)) (hk:K (.lst 1 (eK l)) σ):RAW G P (.convert F dst (.tmp i)) env σ K ⟨⟩:=by
 intro ρ w a op ho M hE
 have N:=hE i
 rw[hi]at N
 simp only[Rep]at N
 have e3:a.eval (.tmp i)= .string ⟨⟨l⟩⟩:=N
 have D:=run_bytes_of_string (P:=P) w F dst elem ⟨⟨l⟩⟩ hs hd he
 have X:=grownCap_ge w l.length 0 elem
 have T:=grownCap_le_maxLen w l.length 0 elem (by unfold maxLen;omega)
 generalize V:grownCap w l.length 0 elem=cp at*
 have Y:(⟨⟨l⟩⟩:ByteArray).size=l.length:=rfl
 rw[Y]at D
 rw[V]at D
 have E:Ev σ w σ (w.drew.alloc (.cells (bytesRow ⟨⟨l⟩⟩ cp) elem ((bytesRow ⟨⟨l⟩⟩ cp).size,(bytesRow ⟨⟨l⟩⟩ cp).size+1))):=Ev.trans Ev.drew (tA _)
 have J:∀b x,(b,x)∈σ++ρ->b<w.heap.size:=λb x I=>(M.obj b x I).lt
 refine⟨_,_,.lst 1 (eK l),σ,.inl (by simp[execOp,ho,e3,D];rfl),hk,?_,E,?_⟩
 ·refine M.step E M.nodup_left (λb O=>.inl O) (λb x I=>(M.obj b x (mem_append.2 (.inl I))).keep E ?_)
  exact Below.heap_alloc _ _ b (J b x (mem_append.2 (.inl I)))
 ·simp only[Rep]
  right;rw[gA];refine⟨_,_,rfl,X,T,oe λj hj=>⟨?_,?_⟩⟩
  ·have O:(w.drew.alloc (.cells (bytesRow ⟨⟨l⟩⟩ cp) elem ((bytesRow ⟨⟨l⟩⟩ cp).size,(bytesRow ⟨⟨l⟩⟩ cp).size+1))).heap[w.heap.size]? =some (.cells (bytesRow ⟨⟨l⟩⟩ cp) elem ((bytesRow ⟨⟨l⟩⟩ cp).size,(bytesRow ⟨⟨l⟩⟩ cp).size+1)):=by
    show(w.heap.push _)[w.heap.size]? =_;simp
   simp only[World.cell?,O];have:=bytesRow_at ⟨⟨l⟩⟩ cp j hj;simpa using this
  ·rintro⟨x,I,_⟩;exact Nat.lt_irrefl _ (J _ _ I)
def mY {z:Array Value} {n:Nat} {v:Value} (E:0<z.size) (h:v∈(madeCells z n).toList):v∈z.toList:=by
 unfold madeCells at h;simp only[Array.toList_map,mem_map]at h;obtain⟨i,hi,rfl⟩:=h;have D:=Nat.mod_lt i E;rw[getElem!_pos z (i % z.size) D];simp
end
section
variable {G:Glob}
end
end Go.Av
