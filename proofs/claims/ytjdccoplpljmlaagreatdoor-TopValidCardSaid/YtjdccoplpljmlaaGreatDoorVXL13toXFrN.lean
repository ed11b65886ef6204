/-
  LINT, 13: valid trees by the reference.
-/
import Derived.Test.YtjdccoplpljmlaaGreatDoorVXL9toXL12
import Derived.Test.YtjdccoplpljmlaaGreatDoorCards
import Derived.Test.YtjdccoplpljmlaaGreatDoorTie
import Derived.WalkKit
import Derived.ProofKit
import Derived.OpenShut
import Derived.Carry
import Derived.LaidSub
import Derived.Deep.DeepHandedRow
import Derived.Test.YtjdccoplpljmlaaGreatDoorVXAv26toXGlob
import Derived.JoinedCond
import Derived.Deep.DeepWitnessRowRef
namespace Go.Av
open Go Go.RowKit Go.Proofs List
set_option linter.unusedSimpArgs false
set_option linter.unusedVariables false
theorem app_lst {e:TypeId} {sz bytes m m':Nat} {σ:Store} {g:Option Nat} {rows ys:List (List AV)} {K:AV->Store->Prop} (hτ:∀d,g=some d->σ.get d=some (.tok e m)) (hm:m=rows.length*sz) (hm':m'=(rows++ys).length*sz)
  (hn:(rows.length+ys.length)*bytes<=140737488355328) (hk:∀g',K (.own g' e sz (rows++ys)) (tokS g' e m')):appX e sz bytes σ g rows ys K:=by
 subst hm hm'
 exact fN [] hτ hn (SubN.nil _) (λg' _=>by simpa using hk g')
/-! ### an inner loop over the first elements of a list -/
structure RestT {α:Type} (l:List α) (i k:Nat) (y:α):Prop where
 lt:k<i
 lt':(k:Int)<(l.length:Int)
 yes:decide ((k:Int)<(i:Int))=true
 le0:(0:Int)<=(k:Int)
 row:∀{β:Type} (f:α->β) (d:β),(l.map f).getD k d=f y
 mem:y∈l.take i
 take:l.take (k+1)=l.take k++[y]
def LT {ι:Type} (G:Glob) (i:Nat) (ok:Nat->ι->Prop) (st:Nat->ι->Env) (ss:Nat->ι->Store) (k:Nat):Env->Store->Prop:=
 λenv σ=>∃j:Nat×ι,(j.1<=i/\ok j.1 j.2)/\i-j.1<i-k/\Weak G env σ (st j.1 j.2) (ss j.1 j.2)
theorem LT_next {α ι:Type} {G:Glob} {l:List α} {i k:Nat} {y:α} {ok:Nat->ι->Prop} {st:Nat->ι->Env} {ss:Nat->ι->Store} {env:Env} {σ:Store} (hy:RestT l i k y) (c:ι) (h:ok (k+1) c) (hw:Weak G env σ (st (k+1) c) (ss (k+1) c)):
  LT G i ok st ss k env σ:=⟨(k+1,c),⟨hy.lt,h⟩,by have:=hy.lt;show i-(k+1)<i-k;omega,hw⟩
theorem W_take {α ι:Type} {G:Glob} {P:Program} {a:SCode} {Q:Exit->Env->Store->Prop} {tQ:Tag Q} {env:Env} {σ:Store} (l:List α) (i:Nat) (hi:i<=l.length) (ok:Nat->ι->Prop) (st:Nat->ι->Env) (ss:Nat->ι->Store) (c0:ι)
  (h0:ok 0 c0) (hw:Weak G env σ (st 0 c0) (ss 0 c0)) (hl:i<9000000000000000000)
  (more:∀k y c,ok k c->RestT l i k y->IntKind.i64.wrap ((k:Int)+1)=((k+1:Nat):Int)->W G P a (NR (LT G i ok st ss k) Q ⟨⟩ ⟨⟩) (st k c) (ss k c) ⟨⟩)
  (fin:∀c,ok i c->decide ((i:Int)<(i:Int))=false->W G P a (NR (LT G i ok st ss i) Q ⟨⟩ ⟨⟩) (st i c) (ss i c) ⟨⟩):W G P (.loop a) Q env σ tQ:=by
 refine bv (ι:=Nat×ι) (λj=>j.1<=i/\ok j.1 j.2) (λj=>i-j.1) (λj=>st j.1 j.2) (λj=>ss j.1 j.2) (0,c0) ⟨Nat.zero_le _,h0⟩ hw ?_
 rintro⟨k,c⟩ ⟨h1,h2⟩
 simp only at h1 h2 ⊢
 rcases Nat.lt_or_ge k i with hk|hk
 ·have hkl:k<l.length:=by omega
  refine more k l[k] c h2 ⟨hk,by omega,by simpa using hk,by omega,λf d=>by simp[hkl],?_,take_succ_eq_append_getElem hkl⟩ (jA (by omega))
  exact mem_iff_getElem.2 ⟨k,by simp;omega,by simp⟩
 ·obtain rfl:k=i:=by omega
  exact fin c h2 (by simp)
theorem nodup_take {α:Type} {l:List α} {i:Nat} {x:α} {r:List α} (hx:Rest l i x r) (hnd:l.Nodup):¬x∈l.take i:=by
 intro hm
 have h1:(l.take (i+1)).Nodup:=hnd.sublist (take_sublist (i+1) l)
 rw[hx.take]at h1
 exact(nodup_append.1 h1).2.2 x hm x (by simp) rfl
def U.ids (u:U):List Idd:=u.flat.map U.id
def U.idss (us:List U):List Idd:=(U.flats us).map U.id
theorem U.ids_eq (u:U):u.ids=u.id::U.idss u.kids:=by unfold U.ids U.idss;rw[U.flat_eq];rfl
theorem U.idss_cons (u:U) (us:List U):U.idss (u::us)=u.ids++U.idss us:=by unfold U.ids U.idss;rw[U.flats,map_append]
theorem U.ids_len (u:U):u.ids.length=u.flat.length:=by simp[U.ids]
def aloneOk (u:U):Bool:=
 (decide (0<=u.kind)&&(decide (u.kind<=7)&&(decide ((u.kids.length:Int)<=64)&&(aX u.head&&aX u.words))))&&
 (if u.kind=0 then decide (u.label=[])&&(decide ((u.head.length:Int)=0)&&decide ((u.words.length:Int)=0))else bc u.label)
section
variable (G:Glob)
theorem f52:∀(u:U),u.Tame->Pure G Tryz.prog 52 [.agg u.cs] (.lst 3 (u.ids.map Idd.cs)):=by
 refine U.ind λu ih ht=>?_
 have hkl:=ht.kids
 have hc:=ht.2
 refine Pure.w c52 λR hR=>?_
 unfold s52 r52
 rw[U.ids_eq]at hR
 have hlen:u.flat.length=1+(U.idss u.kids).length:=by rw[←U.ids_len,U.ids_eq,length_cons];omega
 (repeat' (first|(with_reducible refine aa (ih x hx.mem (ht.kid hx.mem)) ?_)|simp only[EVz,seval,↓reduceIte,EV6,EV7,hx.yes,hx.le0,hx.lt',hx.get,hx.row,hw]|simp only[EVz,seval,↓reduceIte,EV6,EV7,hn]|simp only[EVz,seval,↓reduceIte,EV6,EV7]|(with_reducible intro blk hblk;(try(have hnx:=hblk;simp only[EVK]at hnx;(have hne:=hnx))))|(refine⟨[u.id.cs],rfl,(by simp[Idd.cs]),(by simp[Idd.cs]),?_⟩)|(refine ax (ι:=Option Nat×List Idd) u.kids (λi r c=>u.id::U.idss u.kids=c.2++U.idss r) (λi c=>[(1,.ref u.cs),(3,.own c.1 25 3 (c.2.map Idd.cs)),(4,.int .i64 i)]) (λi c=>tokS c.1 25 (c.2.length*3)) (some blk,[u.id]) rfl (Weak.rfl' _ _) (by omega) (λi x r c hok hx hw=>?_) (λc hok hn=>?_))))
 ·have h1:=congrArg List.length hok
  simp only[length_cons,length_append,U.idss_cons]at h1
  refine app_lst (m':=(c.2++x.ids).length*3) io (by simp) (by simp) (by simp;omega) (λgn=>?_)
  exact am hx (gn,c.2++x.ids) (by rw[hok,U.idss_cons,append_assoc]) (by simp only[map_append];exact Weak.rfl' _ _)
 ·exact hR _ _ (Or.inl (Or.inr ⟨rfl,by rw[hok];simp[U.idss,U.flats]⟩))
theorem f72 (u:U) (hfit:u.fit) (hl:u.label.length<1000000000000000000) (hh:u.head.length<1000000) (hw:u.words.length<1000000):Pure G Tryz.prog 72 [.agg u.cs] (.bool (aloneOk u)):=by
 refine Pure.w c72 λR hR=>?_
 unfold s72 r72
 (repeat' (first|(with_reducible (first|refine ab (λh=>?_) (λh=>?_)|refine ai (λh=>?_) (λh=>?_))<;>(try simp only[DZ]at h))|(with_reducible first|refine aa (f125 G _ hh) ?_|refine aa (f125 G _ hw) ?_|refine aa (f126 G _ hl) ?_)|simp only[EVz,seval,↓reduceIte,EV6,EV7]))
 (all_goals(first|(refine RET.eq hR ?_;(refine congrArg AV.bool (Bool.eq_iff_iff.2 ?_);simp only[aloneOk,EVB]at*;omega))|(refine RET.eq hR ?_;((simp_all[aloneOk];done)))))
def zId:Idd:=⟨0,0,0⟩
def idsOk (u:U):Bool:=(u.ids.all λx=>decide (x=zId))||(decide (decide (u.id=zId)=decide (u.kind=0))&&decide u.ids.Nodup)
theorem idd_eq (x y:Idd):(decide (x.act=y.act)&&(decide (x.item=y.item)&&(decide (x.n=y.n)&&true)))=decide (x=y):=by rw[ml,Bool.and_true]
theorem idd_zero (x:Idd):(decide (x.act=0)&&(decide (x.item=0)&&(decide (x.n=0)&&true)))=decide (x=zId):=idd_eq x zId
theorem f35 (u:U) (ht:u.Tame):Pure G Tryz.prog 35 [.agg u.cs] (.bool (idsOk u)):=by
 refine Pure.w c35 λR hR=>?_
 unfold s35 r35
 have hl:u.ids.length<1000000:=by rw[U.ids_len];exact ht.2
 have h0:u.ids=u.id::U.idss u.kids:=U.ids_eq u
 obtain⟨l,hll⟩:∃l,u.ids=l:=⟨_,rfl⟩
 have hA:=f52 G u ht
 unfold idsOk at hR
 rw[hll]at hR hA hl
 have hl0:0<l.length:=by rw[←hll,h0];simp
 have hg0:(l.map Idd.cs).getD 0 []=[.int .i64 u.id.act,.int .i64 u.id.item,.int .i64 u.id.n]:=by rw[←hll,h0];rfl
 (repeat' (first|(with_reducible (first|refine ab (λh=>?_) (λh=>?_)|refine ai (λh=>?_) (λh=>?_))<;>(try simp only[DZ]at h))|(with_reducible first|refine AI (by omega) ?_|refine aa hA ?_)|simp only[EVz,seval,↓reduceIte,EV6,EV7,hg0,idd_zero,idd_eq,hx.yes,hx.le0,hx.lt',hx.get,hx.row,hw]|simp only[EVz,seval,↓reduceIte,EV6,EV7,hg0,idd_zero,idd_eq,hn]|simp only[EVz,seval,↓reduceIte,EV6,EV7,hg0,idd_zero,idd_eq]|(refine ax (ι:=Bool) (l) (λi r c=>(l.all λx=>decide (x=zId))=(c&&r.all λx=>decide (x=zId))) (λi c=>[(1,.ref u.cs),(3,.lst 3 (l.map Idd.cs)),(4,.bool c),(5,.int .i64 i)]) (λ_ _=>[]) (true) (by rfl) (Weak.rfl' _ _) (by omega) (λi x r c hok hx hw=>?_) (λc hok hn=>?_))|(refine am hx _ ?_ (Weak.rfl' _ _))))
 ·rw[hok,h];simp
 ·rw[hok,h];simp
 ·exact RET.eq hR (by rw[hok,h];simp)
 ·refine RET.eq hR ?_
  rw[hok]
  simp only[all_nil,Bool.and_true]
  rename_i h2
  rw[h2]
  have:¬(decide (u.id=zId)=decide (u.kind=0)):=by simpa using h
  simp[this]
 ·rename_i h2
  have hall:(l.all λx=>decide (x=zId))=false:=by rw[hok,h2];rfl
  have hdd:(decide (u.id=zId)=decide (u.kind=0)):=by simpa using h
  rw[hall,Bool.false_or,decide_eq_true hdd,Bool.true_and]at hR
  clear hok h h2 hall hdd
  (repeat' (first|(with_reducible (refine ab (λh=>?_) (λh=>?_))<;>(try simp only[DZ]at h))|simp only[EVz,seval,↓reduceIte,EV6,EV7,idd_eq,hy.yes,hy.le0,hy.lt',hy.row,hwk,hx.le0,hx.lt',hx.row]|simp only[EVz,seval,↓reduceIte,EV6,EV7,idd_eq,hnk,hx.le0,hx.lt',hx.row,hw]|simp only[EVz,seval,↓reduceIte,EV6,EV7,idd_eq,hx.yes,hx.le0,hx.lt',hx.get,hx.row,hw]|simp only[EVz,seval,↓reduceIte,EV6,EV7,idd_eq,hn]|(refine am hx () ?_ (Weak.rfl' _ _))|(refine ax (l) (λi r (c:Unit)=>(l.take i).Nodup) (λi c=>[(3,.lst 3 (l.map Idd.cs)),(6,.int .i64 i)]) (λ_ _=>[]) () (by((simp;done))) (Weak.rfl' _ _) (by omega) (λi x r c hok hx hw=>?_) (λc hok hn=>?_))|(refine W_take (l) (i) (Nat.le_of_lt hx.lt) (λk (c:Unit)=>¬x∈l.take k) (λk c=>[(3,.lst 3 (l.map Idd.cs)),(6,.int .i64 i),(7,.int .i64 k)]) (λ_ _=>[]) () (by simp) (Weak.rfl' _ _) (by have:=hx.lt;omega) (λk y c hok2 hy hwk=>?_) (λc hok2 hnk=>?_))|(refine LT_next hy () ?_ (Weak.rfl' _ _))))
  ·refine RET.eq hR (congrArg AV.bool (Eq.symm (decide_eq_false ?_)))
   intro hnd
   subst h
   exact nodup_take hx hnd hy.mem
  ·rw[hy.take];simp[hok2,Ne.symm h]
  ·rw[hx.take]
   exact nodup_append.2 ⟨hok,by simp,by intro a ha b hb e;simp only[mem_singleton]at hb;subst hb e;exact hok2 ha⟩
  ·rw[take_length]at hok
   exact RET.eq hR (by rw[decide_eq_true hok])
def Apart (l:List U):Prop:=(l.map λk=>(k.kind,k.label)).Nodup
instance (l:List U):Decidable (Apart l):=inferInstanceAs (Decidable (List.Nodup _))
mutual
def U.right:U->Bool
 |⟨i,k,l,h,w,ks⟩=>aloneOk ⟨i,k,l,h,w,ks⟩&&(U.rights k ks&&decide (Apart ks))
def U.rights:Int->List U->Bool
 |_,[]=>true
 |k,u::us=>(bt k u.kind&&U.right u)&&U.rights k us
end
theorem U.right_eq (u:U):u.right=(aloneOk u&&(U.rights u.kind u.kids&&decide (Apart u.kids))):=by cases u;rw[U.right]
def U.Short (u:U):Prop:=u.Tame/\∀x∈u.flat,x.label.length<1000000000000000000/\x.head.length<1000000/\x.words.length<1000000/\(∀w∈x.head,w.text.length<1000000000000000000)/\(∀w∈x.words,w.text.length<1000000000000000000)
theorem U.flat_kid {u k x:U} (hk:k∈u.kids) (hx:x∈k.flat):x∈u.flat:=by
 rw[U.flat_eq]
 refine mem_cons_of_mem _ ?_
 have:∀us:List U,k∈us->x∈U.flats us:=by
  intro us
  induction us with
  |nil=>intro h;cases h
  |cons a us ih=>
   intro h
   rw[U.flats]
   rcases mem_cons.1 h with rfl|h
   ·exact mem_append.2 (.inl hx)
   ·exact mem_append.2 (.inr (ih h))
 exact this _ hk
theorem U.flat_self (u:U):u∈u.flat:=by rw[U.flat_eq];simp
theorem U.Short.kid {u k:U} (h:u.Short) (hk:k∈u.kids):k.Short:=⟨h.1.kid hk,λx hx=>h.2 x (U.flat_kid hk hx)⟩
theorem apart_no {l:List U} {i:Nat} {x y:U} {r:List U} (hx:Rest l i x r) (hy:y∈l.take i) (h1:y.kind=x.kind) (h2:y.label=x.label):¬Apart l:=by
 intro h
 unfold Apart at h
 have h3:((l.take (i+1)).map λk=>(k.kind,k.label)).Nodup:=h.sublist ((take_sublist (i+1) l).map _)
 rw[hx.take,map_append]at h3
 exact(nodup_append.1 h3).2.2 (y.kind,y.label) (mem_map.2 ⟨y,hy,rfl⟩) (x.kind,x.label) (by simp) (by rw[h1,h2])
theorem apart_more {l:List U} {i:Nat} {x:U} {r:List U} (hx:Rest l i x r) (h:Apart (l.take i)) (hn:∀y∈l.take i,¬(y.kind=x.kind/\y.label=x.label)):Apart (l.take (i+1)):=by
 unfold Apart at*
 rw[hx.take,map_append]
 refine nodup_append.2 ⟨h,by simp,?_⟩
 intro a ha b hb e
 obtain⟨y,hy,rfl⟩:=mem_map.1 ha
 have hb:b=(x.kind,x.label):=by simpa using hb
 subst hb
 injection e with e1 e2
 exact hn y hy ⟨e1,e2⟩
theorem f32:∀(u:U),u.Short->Pure G Tryz.prog 32 [.agg u.cs] (.bool u.right):=by
 refine U.ind λu ih hs=>?_
 have hkl:=hs.1.kids
 have h0:=hs.2 u u.flat_self
 have hfit:=hs.1.1
 have hap0:Apart ([]:List U):=by unfold Apart;simp
 refine Pure.w c32 λR hR=>?_
 unfold s32 r32
 rw[U.right_eq]at hR
 (repeat' (first|(with_reducible (first|refine ab (λh=>?_) (λh=>?_)|refine ai (λh=>?_) (λh=>?_))<;>(try simp only[DZ]at h))|(with_reducible first|refine aa (f72 G u hfit h0.1 h0.2.1 h0.2.2.1) ?_|refine aa (f73 G _ _) ?_|refine aa (ih x hx.mem (hs.kid hx.mem)) ?_)|simp only[EVz,seval,↓reduceIte,EV6,EV7,hy.yes,hy.le0,hy.lt',hy.row,hwk,hx.le0,hx.lt',hx.row]|simp only[EVz,seval,↓reduceIte,EV6,EV7,hnk,hx.le0,hx.lt',hx.row,hw]|simp only[EVz,seval,↓reduceIte,EV6,EV7,hx.yes,hx.le0,hx.lt',hx.get,hx.row,hw]|simp only[EVz,seval,↓reduceIte,EV6,EV7,hn]|simp only[EVz,seval,↓reduceIte,EV6,EV7]|(with_reducible intro blk hblk;(try(have hnx:=hblk;simp only[EVK]at hnx;(have hne:=hnx))))|(refine am hx () ?_ (Weak.rfl' _ _))|(refine ax (u.kids) (λi r (c:Unit)=>U.rights u.kind u.kids=U.rights u.kind r/\Apart (u.kids.take i)) (λi c=>[(1,.ref u.cs),(3,.int .i64 i)]) (λ_ _=>[]) () (by((simp[*];done))) (Weak.rfl' _ _) (by omega) (λi x r c hok hx hw=>?_) (λc hok hn=>?_))|(refine W_take (u.kids) (i) (Nat.le_of_lt hx.lt) (λk (c:Unit)=>∀y∈u.kids.take k,¬(y.kind=x.kind/\y.label=x.label)) (λk c=>[(1,.ref u.cs),(3,.int .i64 i),(4,.int .i64 k)]) (λ_ _=>[]) () (by simp) (Weak.rfl' _ _) (by have:=hx.lt;omega) (λk y c hok2 hy hwk=>?_) (λc hok2 hnk=>?_))|(refine LT_next hy () ?_ (Weak.rfl' _ _))))
 ·exact RET.eq hR (by rw[h];rfl)
 ·exact RET.eq hR (by rw[hok.1,U.rights,h,Bool.and_false];simp)
 ·exact RET.eq hR (by rw[decide_eq_false (apart_no hx hy.mem (by assumption) h)];simp)
 ·rw[hy.take]at hblk
  rcases mem_append.1 hblk with hb|hb
  ·exact hok2 _ hb
  ·simp only[mem_singleton]at hb;subst hb;exact λe=>h e.2
 ·rw[hy.take]at hblk
  rcases mem_append.1 hblk with hb|hb
  ·exact hok2 _ hb
  ·simp only[mem_singleton]at hb;subst hb;exact λe=>h e.1
 ·rename_i hn1
  exact⟨by rw[hok.1,U.rights,hn1,h];rfl,apart_more hx hok.2 hok2⟩
 ·exact RET.eq hR (by rw[hok.1,U.rights,h];simp)
 ·rw[take_length]at hok
  exact RET.eq hR (by rw[hok.1,h,U.rights,decide_eq_true hok.2];rfl)
def treeOk (u:U):Bool:=u.right&&(decide (u.dep<=8)&&(decide (u.cnt<=1024)&&idsOk u))
theorem f8 (u:U) (hs:u.Short):Pure G Tryz.prog 8 [.agg u.cs] (.bool (treeOk u)):=by
 have ht:=hs.1
 refine Pure.w c8 λR hR=>?_
 unfold s8 r8
 (repeat' (first|(with_reducible (refine ai (λh=>?_) (λh=>?_))<;>(try simp only[DZ]at h))|(with_reducible first|refine aa (f32 G u hs) ?_|refine aa (f33 G u ht) ?_|refine aa (f34 G u ht) ?_|refine aa (f35 G u ht) ?_)|simp only[EVz,seval,↓reduceIte,EV6,EV7]))
 (all_goals(first|(refine RET.eq hR ?_;(refine congrArg AV.bool (Bool.eq_iff_iff.2 ?_);simp only[treeOk,EVB]at*;omega))|(refine RET.eq hR ?_;((simp_all[treeOk];done)))))
end
section
def Wd.bare (w:Wd):Wd:=⟨w.text,0,0,0⟩
mutual
def U.strip:U->U
 |⟨_,k,l,h,w,ks⟩=>⟨⟨0,0,0⟩,k,l,h.map Wd.bare,w.map Wd.bare,U.strips ks⟩
def U.strips:List U->List U
 |[]=>[]
 |u::us=>U.strip u::U.strips us
end
theorem U.strips_map:∀us:List U,U.strips us=us.map U.strip
 |[]=>rfl
 |u::us=>by rw[U.strips,U.strips_map us];rfl
theorem U.strip_eq (u:U):u.strip=⟨⟨0,0,0⟩,u.kind,u.label,u.head.map Wd.bare,u.words.map Wd.bare,u.kids.map U.strip⟩:=by cases u;rw[U.strip,U.strips_map]
theorem app_rowK {e:TypeId} {sz bytes n m m':Nat} {τ:Store} (κ:Store) {g:Option Nat} {rows:List (List AV)} {cs:List AV} {K:List (List AV)->AV->Store->Prop} {b k1:Nat} (hτ:τ=κ++tokS g e m) (hg:∀d,g=some d->d∉κ.keys) (hr:rows.length=n) (hm:m=n*sz)
  (hm':m'=(n+1)*sz) (hl:cs.length=sz) (hb:b∉τ.keys) (hn:(n+1)*bytes<=140737488355328) (hk:∀g',(∀d,g'=some d->d∉κ.keys)->K [cs] (.own g' e sz (rows++[cs])) (κ++tokS g' e m')):
  ∃rs:List (List AV),rs.length=1/\(∀r∈rs,r.length=sz)/\rs.flatten=cs/\appX e sz bytes ((b,.tok e k1)::τ) g rows rs (K rs):=by
 subst hm hm' hr hτ
 have hbk:b∉κ.keys:=λh=>hb (by rw[aB];exact mem_append.2 (.inl h))
 refine⟨[cs],rfl,by simpa using hl,by simp,fN κ (λd hd=>?_) (by simpa using hn) ?_ (λg' hg'=>by simpa using hk g' hg')⟩
 ·subst hd
  have h1:¬b=d:=by rintro rfl;exact hb (by rw[aB];exact mem_append.2 (.inr (by simp[tokS,Store.keys])))
  simp only[Store.get,if_neg h1]
  have h2:=hg d rfl
  clear hb hbk hk hg
  induction κ with
  |nil=>simp[tokS,Store.get]
  |cons p κ ih=>
   obtain⟨c,y⟩:=p
   have h3:¬c=d:=by rintro rfl;exact h2 (by simp[Store.keys])
   simp only[cons_append,Store.get,if_neg h3]
   exact ih (λh=>h2 (by simp only[Store.keys,map_cons,mem_cons]at h ⊢;exact .inr h))
 ·refine⟨λp hp=>?_,λhn=>?_⟩
  ·have hp2:p∈((b,AObj.tok e k1)::(κ++tokS g e (rows.length*sz))):=mem_cons_of_mem _ (mem_append.2 (.inl hp))
   cases g with
   |none=>exact hp2
   |some d=>
    refine mem_filter.2 ⟨hp2,?_⟩
    have:p.1≠d:=λe=>hg d rfl (e ▸ mem_map.2 ⟨p,hp,rfl⟩)
    simpa using this
  ·have h4:(Store.keys ((b,AObj.tok e k1)::(κ++tokS g e (rows.length*sz)))).Nodup\/True:=.inr trivial
   have key:∀(σ:Store),κ.keys.Sublist σ.keys->σ.keys.Nodup->κ.keys.Nodup:=λσ h hn=>hn.sublist h
   have hsub:κ.keys.Sublist (Store.erase ((b,AObj.tok e k1)::(κ++tokS g e (rows.length*sz))) g).keys:=by
    cases g with
    |none=>simp only[Store.erase,Store.keys,tokS,append_nil,map_cons];exact sublist_cons_self _ _
    |some d=>
     have hf:(κ.filter λp=>p.1≠d)=κ:=filter_eq_self.2 λp hp=>by
      have:p.1≠d:=λe=>hg d rfl (e ▸ mem_map.2 ⟨p,hp,rfl⟩)
      simpa using this
     simp only[Store.erase,Store.keys]
     refine List.Sublist.map _ ?_
     rw[filter_cons,filter_append,hf]
     split
     ·exact(sublist_append_left _ _).trans (sublist_cons_self _ _)
     ·exact sublist_append_left _ _
   exact key _ hsub hn
section
variable (G:Glob)
end
end
section
def bareOk (u:U):Bool:=treeOk u&&decide (u=u.strip)
def alone11 (u:U):Bool:=
 if u.kind=0 then decide (u.label=[])&&(decide ((u.head.length:Int)=0)&&decide ((u.words.length:Int)=0))
 else decide (0<u.kind)&&(decide (u.kind<=7)&&(bc u.label&&(aX u.head&&aX u.words)))
mutual
def U.shape:Int->U->Bool
 |d,⟨i,k,l,h,w,ks⟩=>((decide (d<=8)&& !(decide (0<d)&&decide (k=0)))&&(alone11 ⟨i,k,l,h,w,ks⟩&&decide ((ks.length:Int)<=64)))&&(U.shapes (d+1) k ks&&decide (Apart ks))
def U.shapes:Int->Int->List U->Bool
 |_,_,[]=>true
 |d,k,u::us=>(bt k u.kind&&U.shape d u)&&U.shapes d k us
end
theorem U.shape_eq (u:U) (d:Int):u.shape d=(((decide (d<=8)&& !(decide (0<d)&&decide (u.kind=0)))&&(alone11 u&&decide ((u.kids.length:Int)<=64)))&&(U.shapes (d+1) u.kind u.kids&&decide (Apart u.kids))):=by cases u;rw[U.shape]
def shapeOk (u:U):Bool:=u.shape 0&&decide (u.cnt<=1024)
section
variable (G:Glob)
end
end
section
def kindNames:List (List UInt8):=[[98,111,111,107],[112,97,114,116],[115,101,99,116,105,111,110],[112,97,114,97,103,114,97,112,104],[116,97,98,108,101],[114,111,119],[99,101,108,108],[110,111,116,101]]
def kindText (k:Int):List UInt8:=kindNames.getD k.toNat []
def escT (t:List UInt8):List UInt8:=if t.getD 0 0=124\/t.getD 0 0=92 then 92::t else t
def wordsT (l:List Wd):List UInt8:=l.flatMap λw=>32::escT w.text
def lineT (u:U) (n:Nat):List UInt8:=
 List.replicate (2*n) 32++(kindText u.kind++((if u.kind=0 then []else 32::u.label)++((if (0:Int)<u.head.length then 58::wordsT u.head else [])++(if (0:Int)<u.words.length then 32::124::wordsT u.words else []))))
def lineOf (u:U) (n:Nat):List UInt8:=if n<=8/\alone11 u=true then lineT u n else []
mutual
def U.lines:Nat->U->List (List UInt8)
 |n,⟨i,k,l,h,w,ks⟩=>lineOf ⟨i,k,l,h,w,ks⟩ n::U.liness (n+1) ks
def U.liness:Nat->List U->List (List UInt8)
 |_,[]=>[]
 |n,u::us=>U.lines n u++U.liness n us
end
theorem U.lines_eq (u:U) (n:Nat):u.lines n=lineOf u n::U.liness (n+1) u.kids:=by cases u;rw[U.lines]
theorem U.liness_cons (u:U) (us:List U) (n:Nat):U.liness n (u::us)=u.lines n++U.liness n us:=by rw[U.liness]
theorem U.lines_len:∀(u:U) (n:Nat),(u.lines n).length=u.flat.length:=by
 refine U.ind λu ih n=>?_
 rw[U.lines_eq,U.flat_eq]
 simp only[length_cons]
 congr 1
 have:∀us:List U,(∀k∈us,∀m,(k.lines m).length=k.flat.length)->(U.liness (n+1) us).length=(U.flats us).length:=by
  intro us
  induction us with
  |nil=>intro _;rfl
  |cons a us iha=>intro h;rw[U.liness_cons,U.flats,length_append,length_append,h a (by simp),iha λk hk=>h k (by simp[hk])]
 exact this _ ih
theorem row_word {l:List Wd} (h:aX l=true) {w:Wd} (hw:w∈l):0<w.text.length/\w.text.length<=24:=by
 unfold aX at h
 simp only[Bool.and_eq_true,decide_eq_true_eq,all_eq_true]at h
 have h1:=h.2 w hw
 unfold wdOk bX at h1
 simp only[Bool.and_eq_true,decide_eq_true_eq]at h1
 omega
theorem row_len {l:List Wd} (h:aX l=true):l.length<=256:=by
 unfold aX at h
 simp only[Bool.and_eq_true,decide_eq_true_eq,all_eq_true]at h
 omega
theorem escT_len (t:List UInt8):(escT t).length<=t.length+1:=by unfold escT;split<;>simp
theorem wordsT_len:∀{l:List Wd},(∀w∈l,0<w.text.length/\w.text.length<=24)->(wordsT l).length<=l.length*26
 |[],_=>by simp[wordsT]
 |w::l,h=>by
  have h1:=(h w (by simp)).2
  have h2:=wordsT_len (l:=l) λx hx=>h x (by simp[hx])
  have h3:=escT_len w.text
  unfold wordsT at*
  simp only[flatMap_cons,length_append,length_cons]
  omega
theorem kindText_len (k:Int):(kindText k).length<=9:=by
 unfold kindText
 have:∀n:Nat,(kindNames.getD n []).length<=9:=λn=>by
  match n with
  |0|1|2|3|4|5|6|7=>decide
  |n+8=>simp[kindNames]
 exact this _
theorem alone_facts {u:U} (h:alone11 u=true):0<=u.kind/\u.kind<=7/\aX u.head=true/\aX u.words=true/\u.label.length<=9:=by
 unfold alone11 at h
 split at h
 ·rename_i hk
  simp only[Bool.and_eq_true,decide_eq_true_eq]at h
  obtain⟨h1,h2,h3⟩:=h
  have e2:u.head=[]:=length_eq_zero_iff.1 (by omega)
  have e3:u.words=[]:=length_eq_zero_iff.1 (by omega)
  rw[e2,e3,h1]
  exact⟨by omega,by omega,by decide,by decide,by simp⟩
 ·simp only[Bool.and_eq_true,decide_eq_true_eq]at h
  obtain⟨h1,h2,h3,h4,h5⟩:=h
  refine⟨by omega,h2,h4,h5,?_⟩
  unfold bc at h3
  simp only[Bool.and_eq_true,decide_eq_true_eq]at h3
  omega
theorem wordsT_row {l:List Wd} (h:aX l=true):(wordsT l).length<=6656:=by
 have:=wordsT_len λw hw=>row_word h hw
 have:=row_len h
 omega
section
variable (G:Glob)
theorem lineOf_len (u:U) (n:Nat):(lineOf u n).length<=20000:=by
 unfold lineOf
 split
 ·rename_i h
  obtain⟨a0,a7,ah,aw,al⟩:=alone_facts h.2
  have b1:=wordsT_row ah
  have b2:=wordsT_row aw
  have b3:=kindText_len u.kind
  unfold lineT
  simp only[length_append,length_replicate]
  have c1:(if u.kind=0 then []else 32::u.label).length<=10:=by split<;>simp;omega
  have c2:(if (0:Int)<u.head.length then 58::wordsT u.head else []).length<=6657:=by split<;>simp;omega
  have c3:(if (0:Int)<u.words.length then 32::124::wordsT u.words else []).length<=6658:=by split<;>simp;omega
  omega
 ·simp
def textT (u:U):List UInt8:=(u.lines 0).flatMap λl=>l++[10]
def textOf (u:U):List UInt8×Int:=if shapeOk u then (if (16384:Int)<(textT u).length then ([],6)else (textT u,0))else ([],1)
theorem lines_short (u:U):∀(n:Nat),∀l∈u.lines n,l.length<=20000:=by
 induction u using U.ind with
 |h u ih=>
  intro n
  rw[U.lines_eq]
  have key:∀us:List U,(∀k∈us,∀m,∀l∈k.lines m,l.length<=20000)->∀l∈U.liness (n+1) us,l.length<=20000:=by
   intro us
   induction us with
   |nil=>intro _ l hl;cases hl
   |cons a us iha=>
    intro h l hl
    rw[U.liness_cons]at hl
    rcases mem_append.1 hl with hl|hl
    ·exact h a (by simp) _ l hl
    ·exact iha (λk hk=>h k (by simp[hk])) l hl
  intro l hl
  rcases mem_cons.1 hl with rfl|hl
  ·exact lineOf_len u n
  ·exact key u.kids ih l hl
end
end
structure GOk (G:Glob):Prop where
 names:G.tab 0=some (kindNames.map AV.str)
 below:G.tab 1=some [.lst 1 (([1,2]:List Int).map irow),.lst 1 (([2]:List Int).map irow),.lst 1 (([3,4,7]:List Int).map irow),.lst 1 (([3,4,7]:List Int).map irow),.lst 1 (([5]:List Int).map irow),.lst 1 (([6]:List Int).map irow),.nil,.nil]
 order:G.tab 2=some [.sc (.func (.func 422) #[] #[]),.sc (.func (.func 423) #[] #[])]
theorem eval_g {G:Glob} {i:Nat} {cs:List AV} (h:G.tab i=some cs):∀env,SOpd.eval G env (.g i)= .ref cs:=by intro env;simp only[SOpd.eval,h]
theorem lt8 {k:Int} (h0:0<=k) (h7:k<=7):k=0\/k=1\/k=2\/k=3\/k=4\/k=5\/k=6\/k=7:=by omega
section
variable (G:Glob) (hG:GOk G)
include hG
theorem f74 (k:Int):Pure G Tryz.prog 74 [.int .i64 k] (.str (if 0<=k/\k<=7 then kindText k else [])):=by
 have hg:=eval_g hG.names
 refine Pure.w c74 λR hR=>?_
 unfold s74 r74
 by_cases hk:0<=k/\k<=7
 ·rw[if_pos hk]at hR
  rcases lt8 hk.1 hk.2 with rfl|rfl|rfl|rfl|rfl|rfl|rfl|rfl<;>((repeat' (simp only[EVz,seval,↓reduceIte,EV6,EV7,hg,kindNames,List.map,Int.toNat,List.drop,List.headD,List.length]));exact RET.eq hR rfl)
 ·rw[if_neg hk]at hR
  (repeat' (first|(with_reducible (first|refine ab (λh=>?_) (λh=>?_)|refine ai (λh=>?_) (λh=>?_))<;>(try simp only[DZ]at h))|(with_reducible refine AI (by omega) ?_)|simp only[EVz,seval,↓reduceIte,EV6,EV7]|(exfalso;omega)))
  (all_goals((exact RET.eq hR rfl)))
theorem f77 (p k:Int):Pure G Tryz.prog 77 [.int .i64 p,.int .i64 k] (.bool (bt p k)):=by
 have hg:=eval_g hG.below
 refine Pure.w c77 λR hR=>?_
 unfold s77 r77
 by_cases hk:0<=p/\p<=7
 ·rcases lt8 hk.1 hk.2 with rfl|rfl|rfl|rfl|rfl|rfl|rfl|rfl
  ·have hc:=f131 G [1,2] k (by decide);simp only[List.map]at hc
   (repeat' (first|(with_reducible refine aa hc ?_)|simp only[EVz,seval,↓reduceIte,EV6,EV7,hg,List.drop,List.headD,List.length]))
   refine RET.eq hR ?_;simp[bt]
  ·have hc:=f131 G [2] k (by decide);simp only[List.map]at hc
   (repeat' (first|(with_reducible refine aa hc ?_)|simp only[EVz,seval,↓reduceIte,EV6,EV7,hg,List.drop,List.headD,List.length,Int.toNat]))
   refine RET.eq hR ?_;simp[bt]
  ·have hc:=f131 G [3,4,7] k (by decide);simp only[List.map]at hc
   (repeat' (first|(with_reducible refine aa hc ?_)|simp only[EVz,seval,↓reduceIte,EV6,EV7,hg,List.drop,List.headD,List.length,Int.toNat]))
   refine RET.eq hR ?_;simp[bt,Bool.or_assoc]
  ·have hc:=f131 G [3,4,7] k (by decide);simp only[List.map]at hc
   (repeat' (first|(with_reducible refine aa hc ?_)|simp only[EVz,seval,↓reduceIte,EV6,EV7,hg,List.drop,List.headD,List.length,Int.toNat]))
   refine RET.eq hR ?_;simp[bt,Bool.or_assoc]
  ·have hc:=f131 G [5] k (by decide);simp only[List.map]at hc
   (repeat' (first|(with_reducible refine aa hc ?_)|simp only[EVz,seval,↓reduceIte,EV6,EV7,hg,List.drop,List.headD,List.length,Int.toNat]))
   refine RET.eq hR ?_;simp[bt]
  ·have hc:=f131 G [6] k (by decide);simp only[List.map]at hc
   (repeat' (first|(with_reducible refine aa hc ?_)|simp only[EVz,seval,↓reduceIte,EV6,EV7,hg,List.drop,List.headD,List.length,Int.toNat]))
   refine RET.eq hR ?_;simp[bt]
  all_goals
   have hc:=f131 G [] k (by decide);simp only[List.map]at hc
   (repeat' (first|simp only[EVz,seval,↓reduceIte,EV6,EV7,hg,List.drop,List.headD,List.length,Int.toNat]|(refine aI hc ⟨.inl (.inr rfl),⟨.inl (.inl rfl),trivial⟩⟩ ?_)))
   refine RET.eq hR ?_;simp[bt]
 ·have e:bt p k=false:=by unfold bt;rw[if_neg (by omega),if_neg (by omega),if_neg (by omega),if_neg (by omega),if_neg (by omega)]
  rw[e]at hR
  (repeat' (first|(with_reducible (refine ai (λh=>?_) (λh=>?_))<;>(try simp only[DZ]at h))|(with_reducible refine AI (by omega) ?_)|simp only[EVz,seval,↓reduceIte,EV6,EV7]|(exfalso;omega)))
  (all_goals((exact RET.eq hR rfl)))
end
end Go.Av
section
namespace Go.Av
open Go Go.RowKit Go.Proofs List
set_option linter.unusedVariables false
theorem calls_of {P:Program} {G:Glob} {k:FuncId} {args:List AV} {r:AV} (h:Pure G P k args r) {W:World} (hG:G.holds [] W) {vs:Array Value} (hA:RepL [] W args vs.toList):
  Calls P k vs W λe W'=>∃v,e= .returned v/\Rep [] W' r v/\Below W.heap.size W W':=by
 have hS:Sat G ([]++[]) W:=⟨by simp[Store.keys],λb x hx=>by simp at hx,hG⟩
 refine(h.2 [] W vs hS hA).mono ?_
 rintro e W' ⟨v,r',σ',rfl,⟨rfl,rfl⟩,_,ev,hr⟩
 exact⟨v,rfl,hr,ev.os,ev.tape,ev.output,ev.size,λk hk=>(ev.block k hk (by simp[Store.keys])).1⟩
theorem tab_of {P:Program} {w:World} {nm:String} {d:DataW Unit} {g:Nat} {t:TypeId} {avs:List AV} (n:Nat) (hr:Go.Lib.VarReads P w nm d) (hg:P.globalNamed nm=some g) (ht:(P.globals[g]?).map (·.type)=some t) (ha:avD P n t d=some avs):
  RepAt [] w ⟨g,0,none⟩ 0 avs:=by
 obtain⟨g',t',cs,fuel,p,h1,h2,h3,h4⟩:=hr
 obtain rfl:=Option.some.inj (hg.symm.trans h1)
 obtain rfl:=Option.some.inj (ht.symm.trans h2)
 exact lK hg h3 (avD_ok n t d avs ha fuel cs.toList p h4)
def tabNames:List AV:=kindNames.map AV.str
def tabBelow:List AV:=[.lst 1 (([1,2]:List Int).map irow),.lst 1 (([2]:List Int).map irow),.lst 1 (([3,4,7]:List Int).map irow),.lst 1 (([3,4,7]:List Int).map irow),.lst 1 (([5]:List Int).map irow),.lst 1 (([6]:List Int).map irow),.nil,.nil]
def tabOrder:List AV:=[.sc (.func (.func 422) #[] #[]),.sc (.func (.func 423) #[] #[])]
def GL:Glob:=globOf [(0,tabNames),(1,tabBelow),(2,tabOrder)]
theorem GL_ok:GOk GL:=⟨rfl,rfl,rfl⟩
end Go.Av
namespace Go.Proofs.YtjdccoplpljmlaaGreatDoor
open Go.ChangeShapes Go.WideShapes Go.ChangeAt Go.RowKit
set_option linter.unusedVariables false
theorem own:ownKnob Tryz.prog.godebug=none:=by kernel_rfl
def litV:DataW Unit->Value
 | .lit (.int k n)=>.int k n
 |_=>.nilFunc
def litsV:DataW Unit->List Value
 | .agg ds=>ds.map litV
 |_=>[]
theorem gNames:Tryz.prog.globalNamed "pandect/unit.names" =some 0:=by kernel_rfl
theorem gBelow:Tryz.prog.globalNamed "pandect/unit.below" =some 1:=by kernel_rfl
theorem gOrder:Tryz.prog.globalNamed "pandect/syntax.order" =some 2:=by kernel_rfl
theorem tOrder:(Tryz.prog.globals[2]?).map (·.type)=some 149:=by kernel_rfl
theorem has_fn:((List.range Tryz.prog.funcs.size).filter λf=>(Tryz.prog.funcs[f]?).any (·.name.toUTF8.data.toList==112::[97,110,100,101,99,116,47,115,121,110,116,97,120,46,111,114,100,101,114,36,49]))=[422]:=by kernel_rfl
theorem may_fn:((List.range Tryz.prog.funcs.size).filter λf=>(Tryz.prog.funcs[f]?).any (·.name.toUTF8.data.toList==112::[97,110,100,101,99,116,47,115,121,110,116,97,120,46,111,114,100,101,114,36,50]))=[423]:=by kernel_rfl
theorem cells83:Tryz.prog.cellsOf 147=1:=by kernel_rfl
theorem cells35:Tryz.prog.cellsOf 95=1:=by kernel_rfl
theorem order_of {W:World} (h:funcsAt Tryz.prog W "pandect/syntax.order" (.agg [.iface "func" (.lit (.string [112,97,110,100,101,99,116,47,115,121,110,116,97,120,46,111,114,100,101,114,36,49])),.iface "func" (.lit (.string [112,97,110,100,101,99,116,47,115,121,110,116,97,120,46,111,114,100,101,114,36,50]))])):
  Go.Av.RepAt [] W ⟨2,0,none⟩ 0 Go.Av.tabOrder:=by
 obtain⟨g,t,cs,fuel,p,hg,ht,hv,hd⟩:=h
 obtain rfl:=Option.some.inj (gOrder.symm.trans hg)
 obtain rfl:=Option.some.inj (tOrder.symm.trans ht)
 obtain⟨xs,n,hn,hx,hl,hxl,hxs⟩:=DataW.trod_struct Tryz.underlying149 hd
 have hl2:cs.toList.length=2:=hl.trans (by kernel_rfl)
 obtain⟨u,v,huv⟩:∃u v,cs.toList=[u,v]:=by
  match hcs:cs.toList,hl2 with
  |[u,v],_=>exact⟨u,v,rfl⟩
 have h0:DataW.trod (funcToken Tryz.prog) Tryz.prog W 0 (λ_=>true) true n 147 ((cs.toList.drop 0).take (Tryz.prog.cellsOf 147))=xs[0]? :=hxs 0 _ rfl
 have h1:DataW.trod (funcToken Tryz.prog) Tryz.prog W 0 (λ_=>true) true n 95 ((cs.toList.drop 1).take (Tryz.prog.cellsOf 95))=xs[1]? :=hxs 1 _ rfl
 have hm:=congrArg Prod.fst hx
 rw[huv]at h0 h1
 simp only[cells83,cells35,List.drop_zero,List.take_succ_cons,List.take_zero,List.drop_succ_cons]at h0 h1
 obtain⟨x0,x1,rfl⟩:∃x0 x1,xs=[x0,x1]:=by
  match xs,hxl with
  |[x0,x1],_=>exact⟨x0,x1,rfl⟩
 simp only[List.map_cons,List.map_nil,DataW.funcsOut,DataW.funcsOutAll,DataW.agg.injEq,List.cons.injEq,and_true]at hm
 obtain⟨e0,e1⟩:=hm
 have hu:=func_of_trod (q:=x0.2) Tryz.underlying147 has_fn (by rw[if_pos (beq_self_eq_true _)]at e0;rw[e0];exact h0)
 have hw:=func_of_trod (q:=x1.2) Tryz.underlying95 may_fn (by rw[if_pos (beq_self_eq_true _)]at e1;rw[e1];exact h1)
 subst hu hw
 refine Go.Av.lK gOrder hv ⟨?_,?_⟩
 ·rw[huv]
  simp only[Go.Av.tabOrder,Go.Av.RepL,Go.Av.Rep]
  exact⟨_,_,rfl,rfl,_,_,rfl,rfl,rfl⟩
 ·rw[huv]
  simp[Value.oneCell']
noncomputable def tNamesT:TypeId:=((Tryz.prog.globals[0]?).map (·.type)).getD 0
theorem tNames:(Tryz.prog.globals[0]?).map (·.type)=some tNamesT:=by kernel_rfl
theorem tNamesD:Go.Av.avD Tryz.prog 6 tNamesT (Rows.laid_pandect_unit_names (H:=Unit))=some Go.Av.tabNames:=by kernel_rfl
noncomputable def tBelowT:TypeId:=((Tryz.prog.globals[1]?).map (·.type)).getD 0
theorem tBelow:(Tryz.prog.globals[1]?).map (·.type)=some tBelowT:=by kernel_rfl
theorem tBelowD:Go.Av.avD Tryz.prog 6 tBelowT (Rows.laid_pandect_unit_below (H:=Unit))=some Go.Av.tabBelow:=by kernel_rfl
theorem glob_holds {L:List (String×DataW Unit)} {W:World} (h:laidMetH Tryz.prog L W)
  (h1:("pandect/unit.names",Rows.laid_pandect_unit_names (H:=Unit))∈L.filter λx=>x.2.handleName?.isNone)
  (h2:("pandect/unit.below",Rows.laid_pandect_unit_below (H:=Unit))∈L.filter λx=>x.2.handleName?.isNone)
  (h3:("pandect/syntax.order",Rows.laid_pandect_syntax_order (H:=Unit))∈L):Go.Av.GL.holds [] W:=by
 obtain⟨hm,_⟩:=laidMetH_iff.1 h
 intro p hp
 simp only[List.mem_cons,List.not_mem_nil,or_false]at hp
 rcases hp with rfl|rfl|rfl
 ·exact Go.Av.tab_of 6 (Go.Lib.laidMet.reads hm h1) gNames tNames tNamesD
 ·exact Go.Av.tab_of 6 (Go.Lib.laidMet.reads hm h2) gBelow tBelow tBelowD
 ·exact order_of (laidMetH.funcs h h3)
noncomputable def laidWorld (os:Os):World:=
 let w0:=World.doorLaid Tryz.prog 600 os
 {w0 with heap:=w0.heap.modify 4 (λ
   | .cells _ t frozen=>.cells (litsV Rows.laid_unicode_utf8_first).toArray t frozen
   |o=>o)}
end Go.Proofs.YtjdccoplpljmlaaGreatDoor
end
namespace Go.Proofs.YtjdccoplpljmlaaGreatDoor
open Go.ChangeShapes Go.WideShapes Go.ChangeAt Go.RowKit
set_option linter.unusedSimpArgs false
set_option linter.unusedVariables false
section
theorem and_mk {a b:Bool} (ha:a=true) (hb:b=true):(a&&b)=true:=by rw[ha,hb];rfl
abbrev laidL:List (String×DataW Unit):=Rows.topValidRow.laid
theorem mem3:("pandect/syntax.order",Rows.laid_pandect_syntax_order (H:=Unit))∈laidL:=List.mem_of_getElem? (i:=3) rfl
theorem mem1:("pandect/unit.names",Rows.laid_pandect_unit_names (H:=Unit))∈laidL.filter λx=>x.2.handleName?.isNone:=
 List.mem_filter.2 ⟨List.mem_of_getElem? (i:=1) rfl,by kernel_rfl⟩
theorem mem2:("pandect/unit.below",Rows.laid_pandect_unit_below (H:=Unit))∈laidL.filter λx=>x.2.handleName?.isNone:=
 List.mem_filter.2 ⟨List.mem_of_getElem? (i:=2) rfl,by kernel_rfl⟩
theorem holdsL {W:World} (h:laidMetH Tryz.prog laidL W):Go.Av.GL.holds [] W:=glob_holds h mem1 mem2 mem3
set_option maxRecDepth 100000
theorem met (os:Os) (args:Array Value):laidMetH Tryz.prog laidL ((laidWorld os).forCall (λ_ _=>0) ⟨#[],args,[]⟩).memory:=
 laidMetH_of_parts3 (fuel:=40) (laidMet_of_run' 40 (by kernel_rfl) (by kernel_rfl)) (by kernel_rfl) (by kernel_rfl)
theorem varsOk (os:Os) (args:Array Value):((laidWorld os).forCall (λ_ _=>0) ⟨#[],args,[]⟩).variablesRefB Tryz.checked.prog=true:=by kernel_rfl
def RestOk (C:Checked) (w0:World) (args:Array Value):Prop:=((w0.forCall (λ_ _=>0) ⟨#[],args,[]⟩).heap.toList.drop C.prog.globals.size).take ((begin C.prog (λ_ _=>0) default).world.heap.size-C.prog.globals.size)=
   (begin C.prog (λ_ _=>0) default).world.heap.toList.drop C.prog.globals.size
theorem restOk (os:Os) (args:Array Value):RestOk Tryz.checked (laidWorld os) args:=by unfold RestOk;kernel_rfl
end
end Go.Proofs.YtjdccoplpljmlaaGreatDoor
