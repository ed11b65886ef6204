/-
  LINT, 13: valid trees by the reference.
-/
import Derived.Test.YtjolkfjccojnnaaGreatDoorXL9toXL12
namespace Go.Av
open Go Go.RowKit Go.Proofs List
set_option linter.unusedSimpArgs false
set_option linter.unusedVariables false
theorem cH {e:TypeId} {sz bytes m m':Nat} {σ:Store} {g:Option Nat} {rows ys:List (List AV)} {K:AV->Store->Prop} (hτ:∀d,g=some d->σ.get d=some (.tok e m)) (hm:m=rows.length*sz) (hm':m'=(rows++ys).length*sz)
  (hn:(rows.length+ys.length)*bytes<=140737488355328) (hk:∀g',K (.own g' e sz (rows++ys)) (tokS g' e m')):appX e sz bytes σ g rows ys K:=by
 subst hm hm'
 exact fR [] hτ hn (SubN.nil _) (λg' _=>by simpa using hk g')
/-! ### an inner loop over the first elements of a list -/
structure RestT {α:Type} (l:List α) (i k:Nat) (y:α):Prop where
 lt:k<i
 lt':(k:Int)<(l.length:Int)
 yes:decide ((k:Int)<(i:Int))=true
 le0:(0:Int)<=(k:Int)
 row:∀{β:Type} (f:α->β) (d:β),(l.map f).getD k d=f y
 mem:y∈l.take i
 take:l.take (k+1)=l.take k++[y]
def LT {ι:Type} (G:Glob) (i:Nat) (ok:Nat->ι->Prop) (st:Nat->ι->Env) (ss:Nat->ι->Store) (k:Nat):Env->Store->Prop:=
 λenv σ=>∃j:Nat×ι,(j.1<=i/\ok j.1 j.2)/\i-j.1<i-k/\Weak G env σ (st j.1 j.2) (ss j.1 j.2)
theorem mQ {α ι:Type} {G:Glob} {l:List α} {i k:Nat} {y:α} {ok:Nat->ι->Prop} {st:Nat->ι->Env} {ss:Nat->ι->Store} {env:Env} {σ:Store} (hy:RestT l i k y) (c:ι) (h:ok (k+1) c) (hw:Weak G env σ (st (k+1) c) (ss (k+1) c)):
  LT G i ok st ss k env σ:=⟨(k+1,c),⟨hy.lt,h⟩,by have:=hy.lt;show i-(k+1)<i-k;omega,hw⟩
theorem qT {α ι:Type} {G:Glob} {P:Program} {a:SCode} {Q:Exit->Env->Store->Prop} {tQ:Tag Q} {env:Env} {σ:Store} (l:List α) (i:Nat) (hi:i<=l.length) (ok:Nat->ι->Prop) (st:Nat->ι->Env) (ss:Nat->ι->Store) (c0:ι)
  (h0:ok 0 c0) (hw:Weak G env σ (st 0 c0) (ss 0 c0)) (hl:i<9000000000000000000)
  (more:∀k y c,ok k c->RestT l i k y->IntKind.i64.wrap ((k:Int)+1)=((k+1:Nat):Int)->W G P a (NR (LT G i ok st ss k) Q ⟨⟩ ⟨⟩) (st k c) (ss k c) ⟨⟩)
  (fin:∀c,ok i c->decide ((i:Int)<(i:Int))=false->W G P a (NR (LT G i ok st ss i) Q ⟨⟩ ⟨⟩) (st i c) (ss i c) ⟨⟩):W G P (.loop a) Q env σ tQ:=by
 refine iy (ι:=Nat×ι) (λj=>j.1<=i/\ok j.1 j.2) (λj=>i-j.1) (λj=>st j.1 j.2) (λj=>ss j.1 j.2) (0,c0) ⟨Nat.zero_le _,h0⟩ hw ?_
 rintro⟨k,c⟩ ⟨h1,h2⟩
 simp only at h1 h2 ⊢
 rcases Nat.lt_or_ge k i with hk|hk
 ·have hkl:k<l.length:=by omega
  refine more k l[k] c h2 ⟨hk,by omega,by simpa using hk,by omega,λf d=>by simp[hkl],?_,take_succ_eq_append_getElem hkl⟩ (iQ (by omega))
  exact mem_iff_getElem.2 ⟨k,by simp;omega,by simp⟩
 ·obtain rfl:k=i:=by omega
  exact fin c h2 (by simp)
theorem pV {α:Type} {l:List α} {i:Nat} {x:α} {r:List α} (hx:Rest l i x r) (hnd:l.Nodup):¬x∈l.take i:=by
 intro hm
 have h1:(l.take (i+1)).Nodup:=hnd.sublist (take_sublist (i+1) l)
 rw[hx.take]at h1
 exact(nodup_append.1 h1).2.2 x hm x (by simp) rfl
def U.ids (u:U):List Idd:=u.flat.map U.id
def U.idss (us:List U):List Idd:=(U.flats us).map U.id
theorem U.ids_eq (u:U):u.ids=u.id::U.idss u.kids:=by unfold U.ids U.idss;rw[U.flat_eq];rfl
theorem U.idss_cons (u:U) (us:List U):U.idss (u::us)=u.ids++U.idss us:=by unfold U.ids U.idss;rw[U.flats,map_append]
theorem U.ids_len (u:U):u.ids.length=u.flat.length:=by simp[U.ids]
def fY (u:U):Bool:=
 (decide (0<=u.kind)&&(decide (u.kind<=7)&&(decide ((u.kids.length:Int)<=64)&&(aS u.head&&aS u.words))))&&
 (if u.kind=0 then decide (u.label=[])&&(decide ((u.head.length:Int)=0)&&decide ((u.words.length:Int)=0))else bC u.label)
section
variable (G:Glob)
theorem f32:∀(u:U),u.Tame->Pure G Tryz.prog 32 [.agg u.cs] (.lst 3 (u.ids.map Idd.cs)):=by
 refine U.ind λu ih ht=>?_
 have hkl:=ht.kids
 have hc:=ht.2
 refine Pure.w c32 λR hR=>?_
 unfold s32 r32
 rw[U.ids_eq]at hR
 have hlen:u.flat.length=1+(U.idss u.kids).length:=by rw[←U.ids_len,U.ids_eq,length_cons];omega
 (repeat' (first|(with_reducible refine ab (ih x hx.mem (ht.kid hx.mem)) ?_)|simp only[EVz,seval,↓reduceIte,EV6,EV7,hx.yes,hx.le0,hx.lt',hx.get,hx.row,hw]|simp only[EVz,seval,↓reduceIte,EV6,EV7,hn]|simp only[EVz,seval,↓reduceIte,EV6,EV7]|(with_reducible intro blk hblk;(try(have hnx:=hblk;simp only[EVK]at hnx;(have hne:=hnx))))|(refine⟨[u.id.cs],rfl,(by simp[Idd.cs]),(by simp[Idd.cs]),?_⟩)|(refine Zq (ι:=Option Nat×List Idd) u.kids (λi r c=>u.id::U.idss u.kids=c.2++U.idss r) (λi c=>[(1,.ref u.cs),(3,.own c.1 23 3 (c.2.map Idd.cs)),(4,.int .i64 i)]) (λi c=>tokS c.1 23 (c.2.length*3)) (some blk,[u.id]) rfl (Weak.rfl' _ _) (by omega) (λi x r c hok hx hw=>?_) (λc hok hn=>?_))|fail))
 ·have h1:=congrArg List.length hok
  simp only[length_cons,length_append,U.idss_cons]at h1
  refine cH (m':=(c.2++x.ids).length*3) bI (by simp) (by simp) (by simp;omega) (λgn=>?_)
  exact af hx (gn,c.2++x.ids) (by rw[hok,U.idss_cons,append_assoc]) (by simp only[map_append];exact Weak.rfl' _ _)
 ·exact hR _ _ (Or.inl (Or.inr ⟨rfl,by rw[hok];simp[U.idss,U.flats]⟩))
theorem f157 (u:U) (hfit:u.fit) (hl:u.label.length<1000000000000000000) (hh:u.head.length<1000000) (hw:u.words.length<1000000):Pure G Tryz.prog 157 [.agg u.cs] (.bool (fY u)):=by
 refine Pure.w c157 λR hR=>?_
 unfold s157 r157
 (repeat' (first|(with_reducible (first|refine ae (λh=>?_) (λh=>?_)|refine ag (λh=>?_) (λh=>?_))<;>(try simp only[Da,Db,Dc,Dw,De,Df,Dg,Dh]at h))|(with_reducible first|refine ab (f207 G _ hh) ?_|refine ab (f207 G _ hw) ?_|refine ab (f31 G _ hl) ?_)|simp only[EVz,seval,↓reduceIte,EV6,EV7]|fail))
 (all_goals(first|(refine RET.eq hR ?_;(refine congrArg AV.bool (Bool.eq_iff_iff.2 ?_);simp only[fY,EVB]at*;omega))|(refine RET.eq hR ?_;((simp_all[fY];done)))))
def zId:Idd:=⟨0,0,0⟩
def il (u:U):Bool:=(u.ids.all λx=>decide (x=zId))||(decide (decide (u.id=zId)=decide (u.kind=0))&&decide u.ids.Nodup)
theorem ai (x y:Idd):(decide (x.act=y.act)&&(decide (x.item=y.item)&&(decide (x.n=y.n)&&true)))=decide (x=y):=by rw[mW,Bool.and_true]
theorem cL (x:Idd):(decide (x.act=0)&&(decide (x.item=0)&&(decide (x.n=0)&&true)))=decide (x=zId):=ai x zId
theorem f90 (u:U) (ht:u.Tame):Pure G Tryz.prog 90 [.agg u.cs] (.bool (il u)):=by
 refine Pure.w c90 λR hR=>?_
 unfold s90 r90
 have hl:u.ids.length<1000000:=by rw[U.ids_len];exact ht.2
 have h0:u.ids=u.id::U.idss u.kids:=U.ids_eq u
 obtain⟨l,hll⟩:∃l,u.ids=l:=⟨_,rfl⟩
 have hA:=f32 G u ht
 unfold il at hR
 rw[hll]at hR hA hl
 have hl0:0<l.length:=by rw[←hll,h0];simp
 have hg0:(l.map Idd.cs).getD 0 []=[.int .i64 u.id.act,.int .i64 u.id.item,.int .i64 u.id.n]:=by rw[←hll,h0];rfl
 (repeat' (first|(with_reducible (first|refine ae (λh=>?_) (λh=>?_)|refine ag (λh=>?_) (λh=>?_))<;>(try simp only[Da,Db,Dc,Dw,De,Df,Dg,Dh]at h))|(with_reducible refine AI (by omega) ?_)|(with_reducible refine ab hA ?_)|simp only[EVz,seval,↓reduceIte,EV6,EV7,hg0,cL,ai,hx.yes,hx.le0,hx.lt',hx.get,hx.row,hw]|simp only[EVz,seval,↓reduceIte,EV6,EV7,hg0,cL,ai,hn]|simp only[EVz,seval,↓reduceIte,EV6,EV7,hg0,cL,ai]|(refine Zq (ι:=Bool) (l) (λi r c=>(l.all λx=>decide (x=zId))=(c&&r.all λx=>decide (x=zId))) (λi c=>[(1,.ref u.cs),(3,.lst 3 (l.map Idd.cs)),(4,.bool c),(5,.int .i64 i)]) (λ_ _=>[]) (true) (by rfl) (Weak.rfl' _ _) (by omega) (λi x r c hok hx hw=>?_) (λc hok hn=>?_))|(refine af hx _ ?_ (Weak.rfl' _ _))|fail))
 ·rw[hok,h];simp
 ·rw[hok,h];simp
 ·exact RET.eq hR (by rw[hok,h];simp)
 ·refine RET.eq hR ?_
  rw[hok]
  simp only[all_nil,Bool.and_true]
  rename_i h2
  rw[h2]
  have:¬(decide (u.id=zId)=decide (u.kind=0)):=by simpa using h
  simp[this]
 ·rename_i h2
  have hall:(l.all λx=>decide (x=zId))=false:=by rw[hok,h2];rfl
  have hdd:(decide (u.id=zId)=decide (u.kind=0)):=by simpa using h
  rw[hall,Bool.false_or,decide_eq_true hdd,Bool.true_and]at hR
  clear hok h h2 hall hdd
  (repeat' (first|(with_reducible (refine ae (λh=>?_) (λh=>?_))<;>(try simp only[Da,Db,Dc,Dw,De,Df,Dg,Dh]at h))|simp only[EVz,seval,↓reduceIte,EV6,EV7,ai,hy.yes,hy.le0,hy.lt',hy.row,hwk,hx.le0,hx.lt',hx.row]|simp only[EVz,seval,↓reduceIte,EV6,EV7,ai,hnk,hx.le0,hx.lt',hx.row,hw]|simp only[EVz,seval,↓reduceIte,EV6,EV7,ai,hx.yes,hx.le0,hx.lt',hx.get,hx.row,hw]|simp only[EVz,seval,↓reduceIte,EV6,EV7,ai,hn]|(refine af hx () ?_ (Weak.rfl' _ _))|(refine Zq (l) (λi r (c:Unit)=>(l.take i).Nodup) (λi c=>[(3,.lst 3 (l.map Idd.cs)),(6,.int .i64 i)]) (λ_ _=>[]) () (by((simp;done))) (Weak.rfl' _ _) (by omega) (λi x r c hok hx hw=>?_) (λc hok hn=>?_))|(refine qT (l) (i) (Nat.le_of_lt hx.lt) (λk (c:Unit)=>¬x∈l.take k) (λk c=>[(3,.lst 3 (l.map Idd.cs)),(6,.int .i64 i),(7,.int .i64 k)]) (λ_ _=>[]) () (by simp) (Weak.rfl' _ _) (by have:=hx.lt;omega) (λk y c hok2 hy hwk=>?_) (λc hok2 hnk=>?_))|(refine mQ hy () ?_ (Weak.rfl' _ _))|fail))
  ·refine RET.eq hR (congrArg AV.bool (Eq.symm (decide_eq_false ?_)))
   intro hnd
   subst h
   exact pV hx hnd hy.mem
  ·rw[hy.take];simp[hok2,Ne.symm h]
  ·rw[hx.take]
   exact nodup_append.2 ⟨hok,by simp,by intro a ha b hb e;simp only[mem_singleton]at hb;subst hb e;exact hok2 ha⟩
  ·rw[take_length]at hok
   exact RET.eq hR (by rw[decide_eq_true hok])
def bW (l:List U):Prop:=(l.map λk=>(k.kind,k.label)).Nodup
instance (l:List U):Decidable (bW l):=inferInstanceAs (Decidable (List.Nodup _))
mutual
def U.right:U->Bool
 |⟨i,k,l,h,w,ks⟩=>fY ⟨i,k,l,h,w,ks⟩&&(U.rights k ks&&decide (bW ks))
def U.rights:Int->List U->Bool
 |_,[]=>true
 |k,u::us=>(g6 k u.kind&&U.right u)&&U.rights k us
end
theorem U.right_eq (u:U):u.right=(fY u&&(U.rights u.kind u.kids&&decide (bW u.kids))):=by cases u;rw[U.right]
def U.Short (u:U):Prop:=u.Tame/\∀x∈u.flat,x.label.length<1000000000000000000/\x.head.length<1000000/\x.words.length<1000000/\(∀w∈x.head,w.text.length<1000000000000000000)/\(∀w∈x.words,w.text.length<1000000000000000000)
theorem U.flat_kid {u k x:U} (hk:k∈u.kids) (hx:x∈k.flat):x∈u.flat:=by
 rw[U.flat_eq]
 refine mem_cons_of_mem _ ?_
 have:∀us:List U,k∈us->x∈U.flats us:=by
  intro us
  induction us with
  |nil=>intro h;cases h
  |cons a us ih=>
   intro h
   rw[U.flats]
   rcases mem_cons.1 h with rfl|h
   ·exact mem_append.2 (.inl hx)
   ·exact mem_append.2 (.inr (ih h))
 exact this _ hk
theorem U.flat_self (u:U):u∈u.flat:=by rw[U.flat_eq];simp
theorem U.Short.kid {u k:U} (h:u.Short) (hk:k∈u.kids):k.Short:=⟨h.1.kid hk,λx hx=>h.2 x (U.flat_kid hk hx)⟩
theorem kD {l:List U} {i:Nat} {x y:U} {r:List U} (hx:Rest l i x r) (hy:y∈l.take i) (h1:y.kind=x.kind) (h2:y.label=x.label):¬bW l:=by
 intro h
 unfold bW at h
 have h3:((l.take (i+1)).map λk=>(k.kind,k.label)).Nodup:=h.sublist ((take_sublist (i+1) l).map _)
 rw[hx.take,map_append]at h3
 exact(nodup_append.1 h3).2.2 (y.kind,y.label) (mem_map.2 ⟨y,hy,rfl⟩) (x.kind,x.label) (by simp) (by rw[h1,h2])
theorem iB {l:List U} {i:Nat} {x:U} {r:List U} (hx:Rest l i x r) (h:bW (l.take i)) (hn:∀y∈l.take i,¬(y.kind=x.kind/\y.label=x.label)):bW (l.take (i+1)):=by
 unfold bW at*
 rw[hx.take,map_append]
 refine nodup_append.2 ⟨h,by simp,?_⟩
 intro a ha b hb e
 obtain⟨y,hy,rfl⟩:=mem_map.1 ha
 have hb:b=(x.kind,x.label):=by simpa using hb
 subst hb
 injection e with e1 e2
 exact hn y hy ⟨e1,e2⟩
theorem f87:∀(u:U),u.Short->Pure G Tryz.prog 87 [.agg u.cs] (.bool u.right):=by
 refine U.ind λu ih hs=>?_
 have hkl:=hs.1.kids
 have h0:=hs.2 u u.flat_self
 have hfit:=hs.1.1
 have hap0:bW ([]:List U):=by unfold bW;simp
 refine Pure.w c87 λR hR=>?_
 unfold s87 r87
 rw[U.right_eq]at hR
 (repeat' (first|(with_reducible (first|refine ae (λh=>?_) (λh=>?_)|refine ag (λh=>?_) (λh=>?_))<;>(try simp only[Da,Db,Dc,Dw,De,Df,Dg,Dh]at h))|(with_reducible first|refine ab (f157 G u hfit h0.1 h0.2.1 h0.2.2.1) ?_|refine ab (f158 G _ _) ?_|refine ab (ih x hx.mem (hs.kid hx.mem)) ?_)|simp only[EVz,seval,↓reduceIte,EV6,EV7,hy.yes,hy.le0,hy.lt',hy.row,hwk,hx.le0,hx.lt',hx.row]|simp only[EVz,seval,↓reduceIte,EV6,EV7,hnk,hx.le0,hx.lt',hx.row,hw]|simp only[EVz,seval,↓reduceIte,EV6,EV7,hx.yes,hx.le0,hx.lt',hx.get,hx.row,hw]|simp only[EVz,seval,↓reduceIte,EV6,EV7,hn]|simp only[EVz,seval,↓reduceIte,EV6,EV7]|(with_reducible intro blk hblk;(try(have hnx:=hblk;simp only[EVK]at hnx;(have hne:=hnx))))|(refine af hx () ?_ (Weak.rfl' _ _))|(refine Zq (u.kids) (λi r (c:Unit)=>U.rights u.kind u.kids=U.rights u.kind r/\bW (u.kids.take i)) (λi c=>[(1,.ref u.cs),(3,.int .i64 i)]) (λ_ _=>[]) () (by((simp[*];done))) (Weak.rfl' _ _) (by omega) (λi x r c hok hx hw=>?_) (λc hok hn=>?_))|(refine qT (u.kids) (i) (Nat.le_of_lt hx.lt) (λk (c:Unit)=>∀y∈u.kids.take k,¬(y.kind=x.kind/\y.label=x.label)) (λk c=>[(1,.ref u.cs),(3,.int .i64 i),(4,.int .i64 k)]) (λ_ _=>[]) () (by simp) (Weak.rfl' _ _) (by have:=hx.lt;omega) (λk y c hok2 hy hwk=>?_) (λc hok2 hnk=>?_))|(refine mQ hy () ?_ (Weak.rfl' _ _))|fail))
 ·exact RET.eq hR (by rw[h];rfl)
 ·exact RET.eq hR (by rw[hok.1,U.rights,h,Bool.and_false];simp)
 ·exact RET.eq hR (by rw[decide_eq_false (kD hx hy.mem (by assumption) h)];simp)
 ·rw[hy.take]at hblk
  rcases mem_append.1 hblk with hb|hb
  ·exact hok2 _ hb
  ·simp only[mem_singleton]at hb;subst hb;exact λe=>h e.2
 ·rw[hy.take]at hblk
  rcases mem_append.1 hblk with hb|hb
  ·exact hok2 _ hb
  ·simp only[mem_singleton]at hb;subst hb;exact λe=>h e.1
 ·rename_i hn1
  exact⟨by rw[hok.1,U.rights,hn1,h];rfl,iB hx hok.2 hok2⟩
 ·exact RET.eq hR (by rw[hok.1,U.rights,h];simp)
 ·rw[take_length]at hok
  exact RET.eq hR (by rw[hok.1,h,U.rights,decide_eq_true hok.2];rfl)
def jN (u:U):Bool:=u.right&&(decide (u.dep<=8)&&(decide (u.cnt<=1024)&&il u))
theorem f45 (u:U) (hs:u.Short):Pure G Tryz.prog 45 [.agg u.cs] (.bool (jN u)):=by
 have ht:=hs.1
 refine Pure.w c45 λR hR=>?_
 unfold s45 r45
 (repeat' (first|(with_reducible (refine ag (λh=>?_) (λh=>?_))<;>(try simp only[Da,Db,Dc,Dw,De,Df,Dg,Dh]at h))|(with_reducible first|refine ab (f87 G u hs) ?_|refine ab (f88 G u ht) ?_|refine ab (f89 G u ht) ?_|refine ab (f90 G u ht) ?_)|simp only[EVz,seval,↓reduceIte,EV6,EV7]|fail))
 (all_goals(first|(refine RET.eq hR ?_;(refine congrArg AV.bool (Bool.eq_iff_iff.2 ?_);simp only[jN,EVB]at*;omega))|(refine RET.eq hR ?_;((simp_all[jN];done)))))
end
section
def Wd.bare (w:Wd):Wd:=⟨w.text,0,0,0⟩
mutual
def U.strip:U->U
 |⟨_,k,l,h,w,ks⟩=>⟨⟨0,0,0⟩,k,l,h.map Wd.bare,w.map Wd.bare,U.strips ks⟩
def U.strips:List U->List U
 |[]=>[]
 |u::us=>U.strip u::U.strips us
end
theorem U.strips_map:∀us:List U,U.strips us=us.map U.strip
 |[]=>rfl
 |u::us=>by rw[U.strips,U.strips_map us];rfl
theorem U.strip_eq (u:U):u.strip=⟨⟨0,0,0⟩,u.kind,u.label,u.head.map Wd.bare,u.words.map Wd.bare,u.kids.map U.strip⟩:=by cases u;rw[U.strip,U.strips_map]
theorem dr {e:TypeId} {sz bytes n m m':Nat} {τ:Store} (κ:Store) {g:Option Nat} {rows:List (List AV)} {cs:List AV} {K:List (List AV)->AV->Store->Prop} {b k1:Nat} (hτ:τ=κ++tokS g e m) (hg:∀d,g=some d->d∉κ.keys) (hr:rows.length=n) (hm:m=n*sz)
  (hm':m'=(n+1)*sz) (hl:cs.length=sz) (hb:b∉τ.keys) (hn:(n+1)*bytes<=140737488355328) (hk:∀g',(∀d,g'=some d->d∉κ.keys)->K [cs] (.own g' e sz (rows++[cs])) (κ++tokS g' e m')):
  ∃rs:List (List AV),rs.length=1/\(∀r∈rs,r.length=sz)/\rs.flatten=cs/\appX e sz bytes ((b,.tok e k1)::τ) g rows rs (K rs):=by
 subst hm hm' hr hτ
 have hbk:b∉κ.keys:=λh=>hb (by rw[aA];exact mem_append.2 (.inl h))
 refine⟨[cs],rfl,by simpa using hl,by simp,fR κ (λd hd=>?_) (by simpa using hn) ?_ (λg' hg'=>by simpa using hk g' hg')⟩
 ·subst hd
  have h1:¬b=d:=by rintro rfl;exact hb (by rw[aA];exact mem_append.2 (.inr (by simp[tokS,Store.keys])))
  simp only[Store.get,if_neg h1]
  have h2:=hg d rfl
  clear hb hbk hk hg
  induction κ with
  |nil=>simp[tokS,Store.get]
  |cons p κ ih=>
   obtain⟨c,y⟩:=p
   have h3:¬c=d:=by rintro rfl;exact h2 (by simp[Store.keys])
   simp only[cons_append,Store.get,if_neg h3]
   exact ih (λh=>h2 (by simp only[Store.keys,map_cons,mem_cons]at h ⊢;exact .inr h))
 ·refine⟨λp hp=>?_,λhn=>?_⟩
  ·have hp2:p∈((b,AObj.tok e k1)::(κ++tokS g e (rows.length*sz))):=mem_cons_of_mem _ (mem_append.2 (.inl hp))
   cases g with
   |none=>exact hp2
   |some d=>
    refine mem_filter.2 ⟨hp2,?_⟩
    have:p.1≠d:=λe=>hg d rfl (e ▸ mem_map.2 ⟨p,hp,rfl⟩)
    simpa using this
  ·have h4:(Store.keys ((b,AObj.tok e k1)::(κ++tokS g e (rows.length*sz)))).Nodup\/True:=.inr trivial
   have key:∀(σ:Store),κ.keys.Sublist σ.keys->σ.keys.Nodup->κ.keys.Nodup:=λσ h hn=>hn.sublist h
   have hsub:κ.keys.Sublist (Store.erase ((b,AObj.tok e k1)::(κ++tokS g e (rows.length*sz))) g).keys:=by
    cases g with
    |none=>simp only[Store.erase,Store.keys,tokS,append_nil,map_cons];exact sublist_cons_self _ _
    |some d=>
     have hf:(κ.filter λp=>p.1≠d)=κ:=filter_eq_self.2 λp hp=>by
      have:p.1≠d:=λe=>hg d rfl (e ▸ mem_map.2 ⟨p,hp,rfl⟩)
      simpa using this
     simp only[Store.erase,Store.keys]
     refine List.Sublist.map _ ?_
     rw[filter_cons,filter_append,hf]
     split
     ·exact(sublist_append_left _ _).trans (sublist_cons_self _ _)
     ·exact sublist_append_left _ _
   exact key _ hsub hn
section
variable (G:Glob)
theorem f94 (l:List Wd) (hl:l.length<1000000):Pure G Tryz.prog 94 [.lst 4 (l.map Wd.cs)] (.lst 4 ((l.map Wd.bare).map Wd.cs)):=by
 refine Pure.w c94 λR hR=>?_
 unfold s94 r94
 (repeat' (first|simp only[EVz,seval,↓reduceIte,EV6,EV7,hx.yes,hx.le0,hx.lt',hx.get,hx.row,hw]|simp only[EVz,seval,↓reduceIte,EV6,EV7,hn]|simp only[EVz,seval,↓reduceIte,EV6,EV7]|(with_reducible intro blk hblk;(try(have hnx:=hblk;simp only[EVK]at hnx;(have hne:=hnx))))|(refine⟨[],rfl,(by simp),rfl,?_⟩)|(refine Zq (ι:=Option Nat) (l) (λi r c=>True) (λi c=>[(0,.lst 4 (l.map Wd.cs)),(3,.own c 120 4 ((l.take i).map (λw=>[AV.str w.text,.int .i64 0,.int .i64 0,.int .i64 0]))),(4,.int .i64 i)]) (λi c=>tokS c 120 (i*4)) (some blk) (by trivial) (Weak.rfl' _ _) (by omega) (λi x r c hok hx hw=>?_) (λc hok hn=>?_))|(refine cV (n:=i) (m':=(i+1)*4) (by exact bI) (by simp;have:=hx.lt;omega) (by rfl) (by rfl) rfl (by assumption) (by have:=hx.lt;omega) (λgn=>?_))|(refine af hx gn ?_ (by simp only[hx.take,map_append,map_cons,map_nil];exact Weak.rfl' _ _))|fail))
 (all_goals(((refine hR _ _ (Or.inl (Or.inr ⟨rfl,?_⟩));simp[wd_cs,Wd.bare,Function.comp_def];done))))
set_option maxHeartbeats 4000000 in
theorem f52:∀(u:U),u.Short->Pure G Tryz.prog 52 [.agg u.cs] (.agg u.strip.cs):=by
 refine U.ind λu ih hs=>?_
 have hkl:=hs.1.kids
 have h0:=hs.2 u u.flat_self
 refine Pure.w c52 λR hR=>?_
 unfold s52 r52
 (repeat' (first|(with_reducible first|refine ab (f94 G _ h0.2.1) ?_|refine ab (f94 G _ h0.2.2.1) ?_)|simp only[EVz,seval,↓reduceIte,EV6,EV7,hne]|simp only[EVz,seval,↓reduceIte,EV6,EV7]|(with_reducible intro blk hblk;(try(have hnx:=hblk;simp only[EVK]at hnx;first|(have hne:=AI hnx hne)|(have hne:=hnx))))|(with_reducible refine ak ?_ ?_)|(with_reducible refine am ?_)|fail))
 all_goals
  rename_i b2 hb2 _ _
  obtain⟨b3,h3⟩:∃b,b=blk:=⟨_,rfl⟩
  subst h3
  (repeat' (first|(with_reducible refine ab (ih x hx.mem (hs.kid hx.mem)) ?_)|simp only[EVz,seval,↓reduceIte,EV6,EV7,hx.yes,hx.le0,hx.lt',hx.get,hx.row,hw,hne]|simp only[EVz,seval,↓reduceIte,EV6,EV7,hn,hne]|(with_reducible intro blk hblk;(try(have hnx:=hblk;simp only[EVK]at hnx;(have hne:=AI hnx hne))))|(with_reducible refine ak ?_ ?_)|(with_reducible refine am ?_)|(refine Zq (ι:=Option Nat) u.kids (λi r c=>∀d,c=some d->d∉Store.keys [(b3,AObj.cells 27 []),(b2,AObj.cells 27 [])]) (λi c=>[(1,.ref u.cs),(2,.sc (.pointer (some ⟨b2,0,none⟩))),(3,.sc (.pointer (some ⟨b3,0,none⟩))),(4,.int .i64 i)]) (λi c=>(b3,.cells 27 [.int .i64 0,.int .i64 0,.int .i64 0,.int .i64 u.kind,.str u.label,.lst 4 ((u.head.map Wd.bare).map Wd.cs),.lst 4 ((u.words.map Wd.bare).map Wd.cs),.own c 27 8 ((u.kids.take i).map λk=>k.strip.cs)])::(b2,.cells 27 zU)::tokS c 27 (i*8)) none (by simp) (Weak.st (by simp[StLe,bz,aP,zU,tokS])) (by omega) (λi x r c hok hx hw=>?_) (λc hok hn=>?_))|(refine dr (n:=i) (m':=(i+1)*8) [_,_] (by rfl) (by simpa[Store.keys]using hok) (by simp;have:=hx.lt;omega) rfl rfl (U.cs_len _) (by assumption) (by have:=hx.lt;omega) (λgn hgn=>?_))|(refine af hx gn (by simpa[Store.keys]using hgn) (by simp only[hx.take,map_append,map_cons,map_nil];exact Weak.rfl' _ _))|fail))
  (all_goals(((refine hR _ _ (Or.inr ?_);simp[*,bz,aP,Itm.cs_eq,U.cs_eq,U.strip_eq,U.cs_eq];done))))
end
end
section
def de (u:U):Bool:=jN u&&decide (u=u.strip)
def bp (u:U):Bool:=
 if u.kind=0 then decide (u.label=[])&&(decide ((u.head.length:Int)=0)&&decide ((u.words.length:Int)=0))
 else decide (0<u.kind)&&(decide (u.kind<=7)&&(bC u.label&&(aS u.head&&aS u.words)))
mutual
def U.shape:Int->U->Bool
 |d,⟨i,k,l,h,w,ks⟩=>((decide (d<=8)&& !(decide (0<d)&&decide (k=0)))&&(bp ⟨i,k,l,h,w,ks⟩&&decide ((ks.length:Int)<=64)))&&(U.shapes (d+1) k ks&&decide (bW ks))
def U.shapes:Int->Int->List U->Bool
 |_,_,[]=>true
 |d,k,u::us=>(g6 k u.kind&&U.shape d u)&&U.shapes d k us
end
theorem U.shape_eq (u:U) (d:Int):u.shape d=(((decide (d<=8)&& !(decide (0<d)&&decide (u.kind=0)))&&(bp u&&decide ((u.kids.length:Int)<=64)))&&(U.shapes (d+1) u.kind u.kids&&decide (bW u.kids))):=by cases u;rw[U.shape]
def br (u:U):Bool:=u.shape 0&&decide (u.cnt<=1024)
section
variable (G:Glob)
theorem f29 (u:U) (hs:u.Short):Pure G Tryz.prog 29 [.agg u.cs] (.bool (de u)):=by
 refine Pure.w c29 λR hR=>?_
 unfold s29 r29
 have hfit:=hs.1.1
 (repeat' (first|(with_reducible (refine ag (λh=>?_) (λh=>?_))<;>(try simp only[Da,Db,Dc,Dw,De,Df,Dg,Dh]at h))|(with_reducible first|refine ab (f45 G u hs) ?_|refine ab (f52 G u hs) ?_|refine ab (f14 G u hfit _) ?_)|simp only[EVz,seval,↓reduceIte,EV6,EV7]|fail))
 (all_goals(((refine RET.eq hR ?_;((simp_all[de];done))))))
theorem f159 (u:U) (hl:u.label.length<1000000000000000000) (hh:u.head.length<1000000) (hw:u.words.length<1000000) (hh2:∀w∈u.head,w.text.length<1000000000000000000) (hw2:∀w∈u.words,w.text.length<1000000000000000000):Pure G Tryz.prog 159 [.agg u.cs] (.bool (bp u)):=by
 refine Pure.w c159 λR hR=>?_
 unfold s159 r159
 (repeat' (first|(with_reducible (first|refine ae (λh=>?_) (λh=>?_)|refine ag (λh=>?_) (λh=>?_))<;>(try simp only[Da,Db,Dc,Dw,De,Df,Dg,Dh]at h))|(with_reducible first|refine ab (f208 G _ hh hh2) ?_|refine ab (f208 G _ hw hw2) ?_|refine ab (f31 G _ hl) ?_)|simp only[EVz,seval,↓reduceIte,EV6,EV7]|fail))
 (all_goals(((refine RET.eq hR ?_;first|(simp_all[bp];done)|(simp_all[bp];omega)))))
theorem f91:∀(u:U) (d:Int),u.Short->0<=d->d<=1000000->Pure G Tryz.prog 91 [.agg u.cs,.int .i64 d] (.bool (u.shape d)):=by
 refine U.ind λu ih d hs hd0 hd1=>?_
 have hkl:=hs.1.kids
 have h0:=hs.2 u u.flat_self
 have hap0:bW ([]:List U):=by unfold bW;simp
 have hwd:IntKind.i64.wrap (d+1)=d+1:=au (by omega) (by omega)
 refine Pure.w c91 λR hR=>?_
 unfold s91 r91
 rw[U.shape_eq]at hR
 (repeat' (first|(with_reducible (first|refine ae (λh=>?_) (λh=>?_)|refine ag (λh=>?_) (λh=>?_))<;>(try simp only[Da,Db,Dc,Dw,De,Df,Dg,Dh]at h))|(with_reducible first|refine ab (f159 G u h0.1 h0.2.1 h0.2.2.1 h0.2.2.2.1 h0.2.2.2.2) ?_|refine ab (f160 G _ _) ?_|refine ab (ih x hx.mem (d+1) (hs.kid hx.mem) (by omega) (by omega)) ?_)|simp only[EVz,seval,↓reduceIte,EV6,EV7,hwd,hy.yes,hy.le0,hy.lt',hy.row,hwk,hx.le0,hx.lt',hx.row]|simp only[EVz,seval,↓reduceIte,EV6,EV7,hwd,hnk,hx.le0,hx.lt',hx.row,hw]|simp only[EVz,seval,↓reduceIte,EV6,EV7,hwd,hx.yes,hx.le0,hx.lt',hx.get,hx.row,hw]|simp only[EVz,seval,↓reduceIte,EV6,EV7,hwd,hn]|simp only[EVz,seval,↓reduceIte,EV6,EV7,hwd]|(with_reducible intro blk hblk;(try(have hnx:=hblk;simp only[EVK]at hnx;(have hne:=hnx))))|(refine af hx () ?_ (Weak.sub (SubN.nil _)))|(refine Zq (u.kids) (λi r (c:Unit)=>U.shapes (d+1) u.kind u.kids=U.shapes (d+1) u.kind r/\bW (u.kids.take i)) (λi c=>[(1,.int .i64 d),(2,.ref u.cs),(5,.int .i64 i)]) (λ_ _=>[]) () (by((simp[*];done))) (Weak.rfl' _ _) (by omega) (λi x r c hok hx hw=>?_) (λc hok hn=>?_))|(refine qT (u.kids) (i) (Nat.le_of_lt hx.lt) (λk (c:Unit)=>∀y∈u.kids.take k,¬(y.kind=x.kind/\y.label=x.label)) (λk c=>[(1,.int .i64 d),(2,.ref u.cs),(5,.int .i64 i),(6,.sc (.pointer (some ⟨blk,0,none⟩))),(7,.int .i64 k)]) (λ_ _=>[(blk,.cells 27 x.cs)]) () (by simp) (Weak.rfl' _ _) (by have:=hx.lt;omega) (λk y c hok2 hy hwk=>?_) (λc hok2 hnk=>?_))|(refine mQ hy () ?_ (Weak.rfl' _ _))|fail))
 all_goals first
  |exact RET.eq hR (by rw[hok.1,U.shapes,h,Bool.and_false];simp)
  |exact RET.eq hR (by rw[decide_eq_false (kD hx hy.mem (by assumption) h)];simp)
  |(rw[hy.take]at hblk
    rcases mem_append.1 hblk with hb|hb
    ·exact hok2 _ hb
    ·simp only[mem_singleton]at hb;subst hb;first|exact λe=>h e.2|exact λe=>h e.1)
  |(rename_i hn1;exact⟨by rw[hok.1,U.shapes,hn1,h];rfl,iB hx hok.2 hok2⟩)
  |exact RET.eq hR (by rw[hok.1,U.shapes,h];simp)
  |(rw[take_length]at hok;exact RET.eq hR (by simp[hok.1,U.shapes,decide_eq_true hok.2, *]))
  |(refine RET.eq hR ?_;simp[*];done)
  |(refine RET.eq hR ?_;simp[*];intros;omega)
  |exact RET.eq hR (by simp[*,hok.1,hok.2,U.shapes];omega)
theorem f50 (u:U) (hs:u.Short):Pure G Tryz.prog 50 [.agg u.cs] (.bool (br u)):=by
 have ht:=hs.1
 refine Pure.w c50 λR hR=>?_
 unfold s50 r50
 (repeat' (first|(with_reducible (refine ag (λh=>?_) (λh=>?_))<;>(try simp only[Da,Db,Dc,Dw,De,Df,Dg,Dh]at h))|(with_reducible first|refine ab (f91 G u 0 hs (by omega) (by omega)) ?_|refine ab (f92 G u ht) ?_)|simp only[EVz,seval,↓reduceIte,EV6,EV7]|fail))
 (all_goals(((refine RET.eq hR ?_;((simp_all[br];done))))))
end
end
end Go.Av
