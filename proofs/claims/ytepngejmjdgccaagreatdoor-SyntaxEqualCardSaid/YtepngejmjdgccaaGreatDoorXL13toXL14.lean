/-
  LINT, 13: valid trees by the reference.
-/
import Derived.Test.YtepngejmjdgccaaGreatDoorXL11toXL12
namespace Go.Av
open Go Go.RowKit Go.Proofs
set_option linter.unusedSimpArgs false
set_option linter.unusedVariables false
theorem app_lst {e:TypeId} {sz bytes m m':Nat} {σ:Store} {g:Option Nat} {rows ys:List (List AV)} {K:AV->Store->Prop} (hτ:∀d,g=some d->σ.get d=some (.tok e m)) (hm:m=rows.length*sz) (hm':m'=(rows++ys).length*sz)
  (hn:(rows.length+ys.length)*bytes<=140737488355328) (hk:∀g',K (.own g' e sz (rows++ys)) (tokS g' e m')):appX e sz bytes σ g rows ys K:=by
 subst hm hm'
 exact appX_one [] hτ hn (SubN.nil _) (λg' _=>by simpa using hk g')
/-! ### an inner loop over the first elements of a list -/
structure RestT {α:Type} (l:List α) (i k:Nat) (y:α):Prop where
 lt:k<i
 lt':(k:Int)<(l.length:Int)
 yes:decide ((k:Int)<(i:Int))=true
 le0:(0:Int)<=(k:Int)
 row:∀{β:Type} (f:α->β) (d:β),(l.map f).getD k d=f y
 mem:y∈l.take i
 take:l.take (k+1)=l.take k++[y]
def LT {ι:Type} (G:Glob) (i:Nat) (ok:Nat->ι->Prop) (st:Nat->ι->Env) (ss:Nat->ι->Store) (k:Nat):Env->Store->Prop:=
 λenv σ=>∃j:Nat×ι,(j.1<=i/\ok j.1 j.2)/\i-j.1<i-k/\Weak G env σ (st j.1 j.2) (ss j.1 j.2)
theorem LT_next {α ι:Type} {G:Glob} {l:List α} {i k:Nat} {y:α} {ok:Nat->ι->Prop} {st:Nat->ι->Env} {ss:Nat->ι->Store} {env:Env} {σ:Store} (hy:RestT l i k y) (c:ι) (h:ok (k+1) c) (hw:Weak G env σ (st (k+1) c) (ss (k+1) c)):
  LT G i ok st ss k env σ:=⟨(k+1,c),⟨hy.lt,h⟩,by have:=hy.lt;show i-(k+1)<i-k;omega,hw⟩
theorem W_take {α ι:Type} {G:Glob} {P:Program} {a:SCode} {Q:Exit->Env->Store->Prop} {tQ:Tag Q} {env:Env} {σ:Store} (l:List α) (i:Nat) (hi:i<=l.length) (ok:Nat->ι->Prop) (st:Nat->ι->Env) (ss:Nat->ι->Store) (c0:ι)
  (h0:ok 0 c0) (hw:Weak G env σ (st 0 c0) (ss 0 c0)) (hl:i<9000000000000000000)
  (more:∀k y c,ok k c->RestT l i k y->IntKind.i64.wrap ((k:Int)+1)=((k+1:Nat):Int)->W G P a (NR (LT G i ok st ss k) Q ⟨⟩ ⟨⟩) (st k c) (ss k c) ⟨⟩)
  (fin:∀c,ok i c->decide ((i:Int)<(i:Int))=false->W G P a (NR (LT G i ok st ss i) Q ⟨⟩ ⟨⟩) (st i c) (ss i c) ⟨⟩):W G P (.loop a) Q env σ tQ:=by
 refine W_loop (ι:=Nat×ι) (λj=>j.1<=i/\ok j.1 j.2) (λj=>i-j.1) (λj=>st j.1 j.2) (λj=>ss j.1 j.2) (0,c0) ⟨Nat.zero_le _,h0⟩ hw ?_
 rintro⟨k,c⟩ ⟨h1,h2⟩
 simp only at h1 h2 ⊢
 rcases Nat.lt_or_ge k i with hk|hk
 ·have hkl:k<l.length:=by omega
  refine more k l[k] c h2 ⟨hk,by omega,by simpa using hk,by omega,λf d=>by simp[hkl],?_,List.take_succ_eq_append_getElem hkl⟩ (wrap_up (by omega))
  exact List.mem_iff_getElem.2 ⟨k,by simp;omega,by simp⟩
 ·obtain rfl:k=i:=by omega
  exact fin c h2 (by simp)
theorem nodup_take {α:Type} {l:List α} {i:Nat} {x:α} {r:List α} (hx:Rest l i x r) (hnd:l.Nodup):¬x∈l.take i:=by
 intro hm
 have h1:(l.take (i+1)).Nodup:=hnd.sublist (List.take_sublist (i+1) l)
 rw[hx.take]at h1
 exact(List.nodup_append.1 h1).2.2 x hm x (by simp) rfl
def U.ids (u:U):List Idd:=u.flat.map U.id
def U.idss (us:List U):List Idd:=(U.flats us).map U.id
theorem U.ids_eq (u:U):u.ids=u.id::U.idss u.kids:=by unfold U.ids U.idss;rw[U.flat_eq];rfl
theorem U.idss_cons (u:U) (us:List U):U.idss (u::us)=u.ids++U.idss us:=by unfold U.ids U.idss;rw[U.flats,List.map_append]
theorem U.ids_len (u:U):u.ids.length=u.flat.length:=by simp[U.ids]
def aloneOk (u:U):Bool:=
 (decide (0<=u.kind)&&(decide (u.kind<=7)&&(decide ((u.kids.length:Int)<=64)&&(rowOk u.head&&rowOk u.words))))&&
 (if u.kind=0 then decide (u.label=[])&&(decide ((u.head.length:Int)=0)&&decide ((u.words.length:Int)=0))else labelOk u.label)
section
variable (G:Glob)
theorem f139:∀(u:U),u.Tame->Pure G Tryz.prog 139 [.agg u.cs] (.lst 3 (u.ids.map Idd.cs)):=by
 refine U.ind λu ih ht=>?_
 have hkl:=ht.kids
 have hc:=ht.2
 refine Pure.w c139 λR hR=>?_
 unfold s139 r139
 rw[U.ids_eq]at hR
 have hlen:u.flat.length=1+(U.idss u.kids).length:=by rw[←U.ids_len,U.ids_eq,List.length_cons];omega
 (repeat' (first|(with_reducible refine CALL_pure (ih x hx.mem (ht.kid hx.mem)) ?_)|simp only[EVz,seval,↓reduceIte,EV6,EV7,hx.yes,hx.le0,hx.lt',hx.get,hx.row,hw]|simp only[EVz,seval,↓reduceIte,EV6,EV7,hn]|simp only[EVz,seval,↓reduceIte,EV6,EV7]|(with_reducible intro blk hblk;(try(have hnx:=hblk;simp only[EVK]at hnx;(have hne:=hnx))))|(refine⟨[u.id.cs],rfl,(by simp[Idd.cs]),(by simp[Idd.cs]),?_⟩)|(refine W_list (ι:=Option Nat×List Idd) u.kids (λi r c=>u.id::U.idss u.kids=c.2++U.idss r) (λi c=>[(1,.ref u.cs),(3,.own c.1 30 3 (c.2.map Idd.cs)),(4,.int .i64 i)]) (λi c=>tokS c.1 30 (c.2.length*3)) (some blk,[u.id]) rfl (Weak.rfl' _ _) (by omega) (λi x r c hok hx hw=>?_) (λc hok hn=>?_))))
 ·have h1:=congrArg List.length hok
  simp only[List.length_cons,List.length_append,U.idss_cons]at h1
  refine app_lst (m':=(c.2++x.ids).length*3) tok_get (by simp) (by simp) (by simp;omega) (λgn=>?_)
  exact LK_next hx (gn,c.2++x.ids) (by rw[hok,U.idss_cons,List.append_assoc]) (by simp only[List.map_append];exact Weak.rfl' _ _)
 ·exact hR _ _ (Or.inl (Or.inr ⟨rfl,by rw[hok];simp[U.idss,U.flats]⟩))
theorem f137 (u:U) (hfit:u.fit) (hl:u.label.length<1000000000000000000) (hh:u.head.length<1000000) (hw:u.words.length<1000000):Pure G Tryz.prog 137 [.agg u.cs] (.bool (aloneOk u)):=by
 refine Pure.w c137 λR hR=>?_
 unfold s137 r137
 (repeat' (first|(with_reducible (first|refine split_case (λh=>?_) (λh=>?_)|refine gd_case (λh=>?_) (λh=>?_))<;>(try simp only[Da,Db,Dc,Dw,De,Df,Dg,Dh]at h))|(with_reducible refine CALL_pure (f181 G _ hh) ?_)|(with_reducible refine CALL_pure (f181 G _ hw) ?_)|(with_reducible refine CALL_pure (f32 G _ hl) ?_)|simp only[EVz,seval,↓reduceIte,EV6,EV7]))
 (all_goals(first|(refine RET.eq hR ?_;(refine congrArg AV.bool (Bool.eq_iff_iff.2 ?_);simp only[aloneOk,EVB]at*;omega))|(refine RET.eq hR ?_;((simp_all[aloneOk];done)))))
def zId:Idd:=⟨0,0,0⟩
def idsOk (u:U):Bool:=(u.ids.all λx=>decide (x=zId))||(decide (decide (u.id=zId)=decide (u.kind=0))&&decide u.ids.Nodup)
theorem idd_eq (x y:Idd):(decide (x.act=y.act)&&(decide (x.item=y.item)&&(decide (x.n=y.n)&&true)))=decide (x=y):=by rw[idd_dec,Bool.and_true]
theorem idd_zero (x:Idd):(decide (x.act=0)&&(decide (x.item=0)&&(decide (x.n=0)&&true)))=decide (x=zId):=idd_eq x zId
theorem f83 (u:U) (ht:u.Tame):Pure G Tryz.prog 83 [.agg u.cs] (.bool (idsOk u)):=by
 refine Pure.w c83 λR hR=>?_
 unfold s83 r83
 have hl:u.ids.length<1000000:=by rw[U.ids_len];exact ht.2
 have h0:u.ids=u.id::U.idss u.kids:=U.ids_eq u
 obtain⟨l,hll⟩:∃l,u.ids=l:=⟨_,rfl⟩
 have hA:=f139 G u ht
 unfold idsOk at hR
 rw[hll]at hR hA hl
 have hl0:0<l.length:=by rw[←hll,h0];simp
 have hg0:(l.map Idd.cs).getD 0 []=[.int .i64 u.id.act,.int .i64 u.id.item,.int .i64 u.id.n]:=by rw[←hll,h0];rfl
 (repeat' (first|(with_reducible (first|refine split_case (λh=>?_) (λh=>?_)|refine gd_case (λh=>?_) (λh=>?_))<;>(try simp only[Da,Db,Dc,Dw,De,Df,Dg,Dh]at h))|(with_reducible refine And.intro (by omega) ?_)|(with_reducible refine CALL_pure (hA) ?_)|simp only[EVz,seval,↓reduceIte,EV6,EV7,hg0,idd_zero,idd_eq,hx.yes,hx.le0,hx.lt',hx.get,hx.row,hw]|simp only[EVz,seval,↓reduceIte,EV6,EV7,hg0,idd_zero,idd_eq,hn]|simp only[EVz,seval,↓reduceIte,EV6,EV7,hg0,idd_zero,idd_eq]|(refine W_list (ι:=Bool) (l) (λi r c=>(l.all λx=>decide (x=zId))=(c&&r.all λx=>decide (x=zId))) (λi c=>[(1,.ref u.cs),(3,.lst 3 (l.map Idd.cs)),(4,.bool c),(5,.int .i64 i)]) (λ_ _=>[]) (true) (by rfl) (Weak.rfl' _ _) (by omega) (λi x r c hok hx hw=>?_) (λc hok hn=>?_))|(refine LK_next hx _ ?_ (Weak.rfl' _ _))))
 ·rw[hok,h];simp
 ·rw[hok,h];simp
 ·exact RET.eq hR (by rw[hok,h];simp)
 ·refine RET.eq hR ?_
  rw[hok]
  simp only[List.all_nil,Bool.and_true]
  rename_i h2
  rw[h2]
  have:¬(decide (u.id=zId)=decide (u.kind=0)):=by simpa using h
  simp[this]
 ·rename_i h2
  have hall:(l.all λx=>decide (x=zId))=false:=by rw[hok,h2];rfl
  have hdd:(decide (u.id=zId)=decide (u.kind=0)):=by simpa using h
  rw[hall,Bool.false_or,decide_eq_true hdd,Bool.true_and]at hR
  clear hok h h2 hall hdd
  (repeat' (first|(with_reducible (refine split_case (λh=>?_) (λh=>?_))<;>(try simp only[Da,Db,Dc,Dw,De,Df,Dg,Dh]at h))|simp only[EVz,seval,↓reduceIte,EV6,EV7,idd_eq,hy.yes,hy.le0,hy.lt',hy.row,hwk,hx.le0,hx.lt',hx.row]|simp only[EVz,seval,↓reduceIte,EV6,EV7,idd_eq,hnk,hx.le0,hx.lt',hx.row,hw]|simp only[EVz,seval,↓reduceIte,EV6,EV7,idd_eq,hx.yes,hx.le0,hx.lt',hx.get,hx.row,hw]|simp only[EVz,seval,↓reduceIte,EV6,EV7,idd_eq,hn]|(refine LK_next hx () ?_ (Weak.rfl' _ _))|(refine W_list (l) (λi r (c:Unit)=>(l.take i).Nodup) (λi c=>[(3,.lst 3 (l.map Idd.cs)),(6,.int .i64 i)]) (λ_ _=>[]) () (by((simp;done))) (Weak.rfl' _ _) (by omega) (λi x r c hok hx hw=>?_) (λc hok hn=>?_))|(refine W_take (l) (i) (Nat.le_of_lt hx.lt) (λk (c:Unit)=>¬x∈l.take k) (λk c=>[(3,.lst 3 (l.map Idd.cs)),(6,.int .i64 i),(7,.int .i64 k)]) (λ_ _=>[]) () (by simp) (Weak.rfl' _ _) (by have:=hx.lt;omega) (λk y c hok2 hy hwk=>?_) (λc hok2 hnk=>?_))|(refine LT_next hy () ?_ (Weak.rfl' _ _))))
  ·refine RET.eq hR (congrArg AV.bool (Eq.symm (decide_eq_false ?_)))
   intro hnd
   subst h
   exact nodup_take hx hnd hy.mem
  ·rw[hy.take];simp[hok2,Ne.symm h]
  ·rw[hx.take]
   exact List.nodup_append.2 ⟨hok,by simp,by intro a ha b hb e;simp only[List.mem_singleton]at hb;subst hb e;exact hok2 ha⟩
  ·rw[List.take_length]at hok
   exact RET.eq hR (by rw[decide_eq_true hok])
def Apart (l:List U):Prop:=(l.map λk=>(k.kind,k.label)).Nodup
instance (l:List U):Decidable (Apart l):=inferInstanceAs (Decidable (List.Nodup _))
mutual
def U.right:U->Bool
 |⟨i,k,l,h,w,ks⟩=>aloneOk ⟨i,k,l,h,w,ks⟩&&(U.rights k ks&&decide (Apart ks))
def U.rights:Int->List U->Bool
 |_,[]=>true
 |k,u::us=>(nests k u.kind&&U.right u)&&U.rights k us
end
theorem U.right_eq (u:U):u.right=(aloneOk u&&(U.rights u.kind u.kids&&decide (Apart u.kids))):=by cases u;rw[U.right]
def U.Short (u:U):Prop:=u.Tame/\∀x∈u.flat,x.label.length<1000000000000000000/\x.head.length<1000000/\x.words.length<1000000/\(∀w∈x.head,w.text.length<1000000000000000000)/\(∀w∈x.words,w.text.length<1000000000000000000)
theorem U.flat_kid {u k x:U} (hk:k∈u.kids) (hx:x∈k.flat):x∈u.flat:=by
 rw[U.flat_eq]
 refine List.mem_cons_of_mem _ ?_
 have:∀us:List U,k∈us->x∈U.flats us:=by
  intro us
  induction us with
  |nil=>intro h;cases h
  |cons a us ih=>
   intro h
   rw[U.flats]
   rcases List.mem_cons.1 h with rfl|h
   ·exact List.mem_append.2 (.inl hx)
   ·exact List.mem_append.2 (.inr (ih h))
 exact this _ hk
theorem U.flat_self (u:U):u∈u.flat:=by rw[U.flat_eq];simp
theorem U.Short.kid {u k:U} (h:u.Short) (hk:k∈u.kids):k.Short:=⟨h.1.kid hk,λx hx=>h.2 x (U.flat_kid hk hx)⟩
theorem apart_no {l:List U} {i:Nat} {x y:U} {r:List U} (hx:Rest l i x r) (hy:y∈l.take i) (h1:y.kind=x.kind) (h2:y.label=x.label):¬Apart l:=by
 intro h
 unfold Apart at h
 have h3:((l.take (i+1)).map λk=>(k.kind,k.label)).Nodup:=h.sublist ((List.take_sublist (i+1) l).map _)
 rw[hx.take,List.map_append]at h3
 exact(List.nodup_append.1 h3).2.2 (y.kind,y.label) (List.mem_map.2 ⟨y,hy,rfl⟩) (x.kind,x.label) (by simp) (by rw[h1,h2])
theorem apart_more {l:List U} {i:Nat} {x:U} {r:List U} (hx:Rest l i x r) (h:Apart (l.take i)) (hn:∀y∈l.take i,¬(y.kind=x.kind/\y.label=x.label)):Apart (l.take (i+1)):=by
 unfold Apart at*
 rw[hx.take,List.map_append]
 refine List.nodup_append.2 ⟨h,by simp,?_⟩
 intro a ha b hb e
 obtain⟨y,hy,rfl⟩:=List.mem_map.1 ha
 have hb:b=(x.kind,x.label):=by simpa using hb
 subst hb
 injection e with e1 e2
 exact hn y hy ⟨e1,e2⟩
theorem f80:∀(u:U),u.Short->Pure G Tryz.prog 80 [.agg u.cs] (.bool u.right):=by
 refine U.ind λu ih hs=>?_
 have hkl:=hs.1.kids
 have h0:=hs.2 u u.flat_self
 have hfit:=hs.1.1
 have hap0:Apart ([]:List U):=by unfold Apart;simp
 refine Pure.w c80 λR hR=>?_
 unfold s80 r80
 rw[U.right_eq]at hR
 (repeat' (first|(with_reducible (first|refine split_case (λh=>?_) (λh=>?_)|refine gd_case (λh=>?_) (λh=>?_))<;>(try simp only[Da,Db,Dc,Dw,De,Df,Dg,Dh]at h))|(with_reducible refine CALL_pure (f137 G u hfit h0.1 h0.2.1 h0.2.2.1) ?_)|(with_reducible refine CALL_pure (f138 G _ _) ?_)|(with_reducible refine CALL_pure (ih x hx.mem (hs.kid hx.mem)) ?_)|simp only[EVz,seval,↓reduceIte,EV6,EV7,hy.yes,hy.le0,hy.lt',hy.row,hwk,hx.le0,hx.lt',hx.row]|simp only[EVz,seval,↓reduceIte,EV6,EV7,hnk,hx.le0,hx.lt',hx.row,hw]|simp only[EVz,seval,↓reduceIte,EV6,EV7,hx.yes,hx.le0,hx.lt',hx.get,hx.row,hw]|simp only[EVz,seval,↓reduceIte,EV6,EV7,hn]|simp only[EVz,seval,↓reduceIte,EV6,EV7]|(with_reducible intro blk hblk;(try(have hnx:=hblk;simp only[EVK]at hnx;(have hne:=hnx))))|(refine LK_next hx () ?_ (Weak.rfl' _ _))|(refine W_list (u.kids) (λi r (c:Unit)=>U.rights u.kind u.kids=U.rights u.kind r/\Apart (u.kids.take i)) (λi c=>[(1,.ref u.cs),(3,.int .i64 i)]) (λ_ _=>[]) () (by((simp[*];done))) (Weak.rfl' _ _) (by omega) (λi x r c hok hx hw=>?_) (λc hok hn=>?_))|(refine W_take (u.kids) (i) (Nat.le_of_lt hx.lt) (λk (c:Unit)=>∀y∈u.kids.take k,¬(y.kind=x.kind/\y.label=x.label)) (λk c=>[(1,.ref u.cs),(3,.int .i64 i),(4,.int .i64 k)]) (λ_ _=>[]) () (by simp) (Weak.rfl' _ _) (by have:=hx.lt;omega) (λk y c hok2 hy hwk=>?_) (λc hok2 hnk=>?_))|(refine LT_next hy () ?_ (Weak.rfl' _ _))))
 ·exact RET.eq hR (by rw[h];rfl)
 ·exact RET.eq hR (by rw[hok.1,U.rights,h,Bool.and_false];simp)
 ·exact RET.eq hR (by rw[decide_eq_false (apart_no hx hy.mem (by assumption) h)];simp)
 ·rw[hy.take]at hblk
  rcases List.mem_append.1 hblk with hb|hb
  ·exact hok2 _ hb
  ·simp only[List.mem_singleton]at hb;subst hb;exact λe=>h e.2
 ·rw[hy.take]at hblk
  rcases List.mem_append.1 hblk with hb|hb
  ·exact hok2 _ hb
  ·simp only[List.mem_singleton]at hb;subst hb;exact λe=>h e.1
 ·rename_i hn1
  exact⟨by rw[hok.1,U.rights,hn1,h];rfl,apart_more hx hok.2 hok2⟩
 ·exact RET.eq hR (by rw[hok.1,U.rights,h];simp)
 ·rw[List.take_length]at hok
  exact RET.eq hR (by rw[hok.1,h,U.rights,decide_eq_true hok.2];rfl)
def treeOk (u:U):Bool:=u.right&&(decide (u.dep<=8)&&(decide (u.cnt<=1024)&&idsOk u))
theorem f53 (u:U) (hs:u.Short):Pure G Tryz.prog 53 [.agg u.cs] (.bool (treeOk u)):=by
 have ht:=hs.1
 refine Pure.w c53 λR hR=>?_
 unfold s53 r53
 (repeat' (first|(with_reducible (refine gd_case (λh=>?_) (λh=>?_))<;>(try simp only[Da,Db,Dc,Dw,De,Df,Dg,Dh]at h))|(with_reducible refine CALL_pure (f80 G u hs) ?_)|(with_reducible refine CALL_pure (f81 G u ht) ?_)|(with_reducible refine CALL_pure (f82 G u ht) ?_)|(with_reducible refine CALL_pure (f83 G u ht) ?_)|simp only[EVz,seval,↓reduceIte,EV6,EV7]))
 (all_goals(first|(refine RET.eq hR ?_;(refine congrArg AV.bool (Bool.eq_iff_iff.2 ?_);simp only[treeOk,EVB]at*;omega))|(refine RET.eq hR ?_;((simp_all[treeOk];done)))))
end
section
def Wd.bare (w:Wd):Wd:=⟨w.text,0,0,0⟩
mutual
def U.strip:U->U
 |⟨_,k,l,h,w,ks⟩=>⟨⟨0,0,0⟩,k,l,h.map Wd.bare,w.map Wd.bare,U.strips ks⟩
def U.strips:List U->List U
 |[]=>[]
 |u::us=>U.strip u::U.strips us
end
theorem U.strips_map:∀us:List U,U.strips us=us.map U.strip
 |[]=>rfl
 |u::us=>by rw[U.strips,U.strips_map us];rfl
theorem U.strip_eq (u:U):u.strip=⟨⟨0,0,0⟩,u.kind,u.label,u.head.map Wd.bare,u.words.map Wd.bare,u.kids.map U.strip⟩:=by cases u;rw[U.strip,U.strips_map]
theorem app_rowK {e:TypeId} {sz bytes n m m':Nat} {τ:Store} (κ:Store) {g:Option Nat} {rows:List (List AV)} {cs:List AV} {K:List (List AV)->AV->Store->Prop} {b k1:Nat} (hτ:τ=κ++tokS g e m) (hg:∀d,g=some d->d∉κ.keys) (hr:rows.length=n) (hm:m=n*sz)
  (hm':m'=(n+1)*sz) (hl:cs.length=sz) (hb:b∉τ.keys) (hn:(n+1)*bytes<=140737488355328) (hk:∀g',(∀d,g'=some d->d∉κ.keys)->K [cs] (.own g' e sz (rows++[cs])) (κ++tokS g' e m')):
  ∃rs:List (List AV),rs.length=1/\(∀r∈rs,r.length=sz)/\rs.flatten=cs/\appX e sz bytes ((b,.tok e k1)::τ) g rows rs (K rs):=by
 subst hm hm' hr hτ
 have hbk:b∉κ.keys:=λh=>hb (by rw[keys_append];exact List.mem_append.2 (.inl h))
 refine⟨[cs],rfl,by simpa using hl,by simp,appX_one κ (λd hd=>?_) (by simpa using hn) ?_ (λg' hg'=>by simpa using hk g' hg')⟩
 ·subst hd
  have h1:¬b=d:=by rintro rfl;exact hb (by rw[keys_append];exact List.mem_append.2 (.inr (by simp[tokS,Store.keys])))
  simp only[Store.get,if_neg h1]
  have h2:=hg d rfl
  clear hb hbk hk hg
  induction κ with
  |nil=>simp[tokS,Store.get]
  |cons p κ ih=>
   obtain⟨c,y⟩:=p
   have h3:¬c=d:=by rintro rfl;exact h2 (by simp[Store.keys])
   simp only[List.cons_append,Store.get,if_neg h3]
   exact ih (λh=>h2 (by simp only[Store.keys,List.map_cons,List.mem_cons]at h ⊢;exact .inr h))
 ·refine⟨λp hp=>?_,λhn=>?_⟩
  ·have hp2:p∈((b,AObj.tok e k1)::(κ++tokS g e (rows.length*sz))):=List.mem_cons_of_mem _ (List.mem_append.2 (.inl hp))
   cases g with
   |none=>exact hp2
   |some d=>
    refine List.mem_filter.2 ⟨hp2,?_⟩
    have:p.1≠d:=λe=>hg d rfl (e ▸ List.mem_map.2 ⟨p,hp,rfl⟩)
    simpa using this
  ·have h4:(Store.keys ((b,AObj.tok e k1)::(κ++tokS g e (rows.length*sz)))).Nodup\/True:=.inr trivial
   have key:∀(σ:Store),κ.keys.Sublist σ.keys->σ.keys.Nodup->κ.keys.Nodup:=λσ h hn=>hn.sublist h
   have hsub:κ.keys.Sublist (Store.erase ((b,AObj.tok e k1)::(κ++tokS g e (rows.length*sz))) g).keys:=by
    cases g with
    |none=>simp only[Store.erase,Store.keys,tokS,List.append_nil,List.map_cons];exact List.sublist_cons_self _ _
    |some d=>
     have hf:(κ.filter λp=>p.1≠d)=κ:=List.filter_eq_self.2 λp hp=>by
      have:p.1≠d:=λe=>hg d rfl (e ▸ List.mem_map.2 ⟨p,hp,rfl⟩)
      simpa using this
     simp only[Store.erase,Store.keys]
     refine List.Sublist.map _ ?_
     rw[List.filter_cons,List.filter_append,hf]
     split
     ·exact(List.sublist_append_left _ _).trans (List.sublist_cons_self _ _)
     ·exact List.sublist_append_left _ _
   exact key _ hsub hn
section
variable (G:Glob)
theorem f84 (l:List Wd) (hl:l.length<1000000):Pure G Tryz.prog 84 [.lst 4 (l.map Wd.cs)] (.lst 4 ((l.map Wd.bare).map Wd.cs)):=by
 refine Pure.w c84 λR hR=>?_
 unfold s84 r84
 (repeat' (first|simp only[EVz,seval,↓reduceIte,EV6,EV7,hx.yes,hx.le0,hx.lt',hx.get,hx.row,hw]|simp only[EVz,seval,↓reduceIte,EV6,EV7,hn]|simp only[EVz,seval,↓reduceIte,EV6,EV7]|(with_reducible intro blk hblk;(try(have hnx:=hblk;simp only[EVK]at hnx;(have hne:=hnx))))|(refine⟨[],rfl,(by simp),rfl,?_⟩)|(refine W_list (ι:=Option Nat) (l) (λi r c=>True) (λi c=>[(0,.lst 4 (l.map Wd.cs)),(3,.own c 80 4 ((l.take i).map (λw=>[AV.str w.text,.int .i64 0,.int .i64 0,.int .i64 0]))),(4,.int .i64 i)]) (λi c=>tokS c 80 (i*4)) (some blk) (by trivial) (Weak.rfl' _ _) (by omega) (λi x r c hok hx hw=>?_) (λc hok hn=>?_))|(refine app_row (n:=i) (m':=(i+1)*4) (by exact tok_get) (by simp;have:=hx.lt;omega) (by rfl) (by rfl) rfl (by assumption) (by have:=hx.lt;omega) (λgn=>?_))|(refine LK_next hx gn ?_ (by simp only[hx.take,List.map_append,List.map_cons,List.map_nil];exact Weak.rfl' _ _))))
 (all_goals(((refine hR _ _ (Or.inl (Or.inr ⟨rfl,?_⟩));simp[wd_cs,Wd.bare,Function.comp_def];done))))
set_option maxHeartbeats 4000000 in
theorem f54:∀(u:U),u.Short->Pure G Tryz.prog 54 [.agg u.cs] (.agg u.strip.cs):=by
 refine U.ind λu ih hs=>?_
 have hkl:=hs.1.kids
 have h0:=hs.2 u u.flat_self
 refine Pure.w c54 λR hR=>?_
 unfold s54 r54
 (repeat' (first|(with_reducible refine CALL_pure (f84 G _ h0.2.1) ?_)|(with_reducible refine CALL_pure (f84 G _ h0.2.2.1) ?_)|simp only[EVz,seval,↓reduceIte,EV6,EV7,hne]|simp only[EVz,seval,↓reduceIte,EV6,EV7]|(with_reducible intro blk hblk;(try(have hnx:=hblk;simp only[EVK]at hnx;first|(have hne:=And.intro hnx hne)|(have hne:=hnx))))|(with_reducible refine both_case ?_ ?_)|(with_reducible refine same_case ?_)))
 all_goals
  rename_i b2 hb2 _ _
  obtain⟨b3,h3⟩:∃b,b=blk:=⟨_,rfl⟩
  subst h3
  (repeat' (first|(with_reducible refine CALL_pure (ih x hx.mem (hs.kid hx.mem)) ?_)|simp only[EVz,seval,↓reduceIte,EV6,EV7,hx.yes,hx.le0,hx.lt',hx.get,hx.row,hw,hne]|simp only[EVz,seval,↓reduceIte,EV6,EV7,hn,hne]|(with_reducible intro blk hblk;(try(have hnx:=hblk;simp only[EVK]at hnx;(have hne:=And.intro hnx hne))))|(with_reducible refine both_case ?_ ?_)|(with_reducible refine same_case ?_)|(refine W_list (ι:=Option Nat) u.kids (λi r c=>∀d,c=some d->d∉Store.keys [(b3,AObj.cells 34 []),(b2,AObj.cells 34 [])]) (λi c=>[(1,.ref u.cs),(2,.sc (.pointer (some ⟨b2,0,none⟩))),(3,.sc (.pointer (some ⟨b3,0,none⟩))),(4,.int .i64 i)]) (λi c=>(b3,.cells 34 [.int .i64 0,.int .i64 0,.int .i64 0,.int .i64 u.kind,.str u.label,.lst 4 ((u.head.map Wd.bare).map Wd.cs),.lst 4 ((u.words.map Wd.bare).map Wd.cs),.own c 34 8 ((u.kids.take i).map λk=>k.strip.cs)])::(b2,.cells 34 zU)::tokS c 34 (i*8)) none (by simp) (Weak.st (by simp[StLe,AVleL,AVle1,zU,tokS])) (by omega) (λi x r c hok hx hw=>?_) (λc hok hn=>?_))|(refine app_rowK (n:=i) (m':=(i+1)*8) [_,_] (by rfl) (by simpa[Store.keys]using hok) (by simp;have:=hx.lt;omega) rfl rfl (U.cs_len _) (by assumption) (by have:=hx.lt;omega) (λgn hgn=>?_))|(refine LK_next hx gn (by simpa[Store.keys]using hgn) (by simp only[hx.take,List.map_append,List.map_cons,List.map_nil];exact Weak.rfl' _ _))))
  (all_goals(((refine hR _ _ (Or.inr ?_);simp[*,AVleL,AVle1,Itm.cs_eq,U.cs_eq,U.strip_eq,U.cs_eq];done))))
end
end
end Go.Av
