/-
  LINT, 13: valid trees by the reference.
-/
import Derived.Test.YtnoakpkjccigoaaGreatDoorRXL9toXL12
import Derived.Test.YtnoakpkjccigoaaGreatDoorCards
import Derived.Test.YtnoakpkjccigoaaGreatDoorTie
import Derived.WalkKit
import Derived.ProofKit
import Derived.OpenShut
import Derived.Carry
import Derived.LaidSub
import Derived.Deep.DeepHandedRow
import Derived.Test.YtnoakpkjccigoaaGreatDoorRXAv26toXGlob
import Derived.JoinedCond
import Derived.Deep.DeepWitnessRowRef
import Derived.Test.YtnoakpkjccigoaaGreatDoorRShelf
import Derived.Test.YtnoakpkjccigoaaGreatDoorRXL2toXL8
import Derived.Lib.Split
import Derived.Lib.SplitLaws
import Derived.Lib.AppendIntMem
namespace Go.Av
open Go Go.RowKit Go.Proofs List
set_option linter.unusedSimpArgs false
set_option linter.unusedVariables false
theorem p6 {e:TypeId} {sz bytes m m':Nat} {σ:Store} {g:Option Nat} {rows ys:List (List AV)} {K:AV->Store->Prop} (F:∀d,g=some d->σ.get d=some (.tok e m)) (J:m=rows.length*sz) (E:m'=(rows++ys).length*sz)
  (M:(rows.length+ys.length)*bytes<=140737488355328) (I:∀D,K (.own D e sz (rows++ys)) (tokS D e m')):appX e sz bytes σ g rows ys K:=by
 subst J E
 exact fM [] F M (SubN.nil _) (λD _=>by simpa using I D)
/-! ### an inner loop over the first elements of a list -/
structure RestT {α:Type} (l:List α) (i k:Nat) (y:α):Prop where
 lt:k<i
 lt':(k:Int)<(l.length:Int)
 yes:decide ((k:Int)<(i:Int))=true
 le0:(0:Int)<=(k:Int)
 row:∀{β:Type} (f:α->β) (d:β),(l.map f).getD k d=f y
 mem:y∈l.take i
 take:l.take (k+1)=l.take k++[y]
def LT {ι:Type} (G:Glob) (i:Nat) (ok:Nat->ι->Prop) (st:Nat->ι->Env) (D:Nat->ι->Store) (k:Nat):Env->Store->Prop:=
 λenv σ=>∃j:Nat×ι,(j.1<=i/\ok j.1 j.2)/\i-j.1<i-k/\Weak G env σ (st j.1 j.2) (D j.1 j.2)
theorem qz {α ι:Type} {G:Glob} {l:List α} {i k:Nat} {y:α} {ok:Nat->ι->Prop} {st:Nat->ι->Env} {E:Nat->ι->Store} {env:Env} {σ:Store} (D:RestT l i k y) (c:ι) (h:ok (k+1) c) (F:Weak G env σ (st (k+1) c) (E (k+1) c)):
  LT G i ok st E k env σ:=⟨(k+1,c),⟨D.lt,h⟩,by have:=D.lt;show i-(k+1)<i-k;omega,F⟩
theorem W_take {α ι:Type} {G:Glob} {P:Program} {a:SCode} {Q:Exit->Env->Store->Prop} {T:Tag Q} {env:Env} {σ:Store} (l:List α) (i:Nat) (hi:i<=l.length) (ok:Nat->ι->Prop) (st:Nat->ι->Env) (D:Nat->ι->Store) (c0:ι)
  (M:ok 0 c0) (O:Weak G env σ (st 0 c0) (D 0 c0)) (V:i<9000000000000000000)
  (F:∀k y c,ok k c->RestT l i k y->IntKind.i64.wrap ((k:Int)+1)=((k+1:Nat):Int)->W G P a (NR (LT G i ok st D k) Q ⟨⟩ ⟨⟩) (st k c) (D k c) ⟨⟩)
  (I:∀c,ok i c->decide ((i:Int)<(i:Int))=false->W G P a (NR (LT G i ok st D i) Q ⟨⟩ ⟨⟩) (st i c) (D i c) ⟨⟩):W G P (.loop a) Q env σ T:=by
 refine jf (ι:=Nat×ι) (λj=>j.1<=i/\ok j.1 j.2) (λj=>i-j.1) (λj=>st j.1 j.2) (λj=>D j.1 j.2) (0,c0) ⟨Nat.zero_le _,M⟩ O ?_
 rintro⟨k,c⟩ ⟨N,J⟩
 simp only at N J ⊢
 rcases Nat.lt_or_ge k i with hk|hk
 ·have E:k<l.length:=by omega
  refine F k l[k] c J ⟨hk,by omega,by simpa using hk,by omega,λf d=>by simp[E],?_,take_succ_eq_append_getElem E⟩ (jE (by omega))
  exact mem_iff_getElem.2 ⟨k,by simp;omega,by simp⟩
 ·obtain rfl:k=i:=by omega
  exact I c J (by simp)
theorem qS {α:Type} {l:List α} {i:Nat} {x:α} {r:List α} (I:Rest l i x r) (D:l.Nodup):¬x∈l.take i:=by
 intro F
 have E:(l.take (i+1)).Nodup:=D.sublist (take_sublist (i+1) l)
 rw[I.take]at E
 exact(nodup_append.1 E).2.2 x F x (by simp) rfl
def U.ids (u:U):List Idd:=u.flat.map U.id
def U.idss (us:List U):List Idd:=(U.flats us).map U.id
theorem U.ids_eq (u:U):u.ids=u.id::U.idss u.kids:=by unfold U.ids U.idss;rw[U.flat_eq];rfl
theorem U.idss_cons (u:U) (us:List U):U.idss (u::us)=u.ids++U.idss us:=by unfold U.ids U.idss;rw[U.flats,map_append]
theorem U.ids_len (u:U):u.ids.length=u.flat.length:=by simp[U.ids]
def pJ (u:U):Bool:=
 (decide (0<=u.kind)&&(decide (u.kind<=7)&&(decide ((u.kids.length:Int)<=64)&&(aU u.head&&aU u.words))))&&
 (if u.kind=0 then decide (u.label=[])&&(decide ((u.head.length:Int)=0)&&decide ((u.words.length:Int)=0))else br u.label)
section
variable (G:Glob)
theorem f56:∀(u:U),u.Tame->Pure G Tryz.prog 56 [.agg u.cs] (.lst 3 (u.ids.map Idd.cs)):=by
 refine U.ind λu ih M=>?_
 have X:=M.kids
 have hc:=M.2
 refine Pure.w c56 λR N=>?_
 unfold s56 r56
 rw[U.ids_eq]at N
 have O:u.flat.length=1+(U.idss u.kids).length:=by rw[←U.ids_len,U.ids_eq,length_cons];omega
 (repeat' (first|(with_reducible refine aa (ih x E.mem (M.kid E.mem)) ?_)|simp only[EVz,seval,↓reduceIte,EV6,EV7,E.yes,E.le0,E.lt',E.get,E.row,hw]|simp only[EVz,seval,↓reduceIte,EV6,EV7,Y]|simp only[EVz,seval,↓reduceIte,EV6,EV7]|(with_reducible intro J F;(try(have I:=F;simp only[EVK]at I;(have Z:=I))))|(refine⟨[u.id.cs],rfl,(by simp[Idd.cs]),(by simp[Idd.cs]),?_⟩)|(refine ay (ι:=Option Nat×List Idd) u.kids (λi r c=>u.id::U.idss u.kids=c.2++U.idss r) (λi c=>[(1,.ref u.cs),(3,.own c.1 23 3 (c.2.map Idd.cs)),(4,.int .i64 i)]) (λi c=>tokS c.1 23 (c.2.length*3)) (some J,[u.id]) rfl (Weak.rfl' _ _) (by omega) (λi x r c D E hw=>?_) (λc D Y=>?_))))
 ·have V:=congrArg List.length D
  simp only[length_cons,length_append,U.idss_cons]at V
  refine p6 (m':=(c.2++x.ids).length*3) iR (by simp) (by simp) (by simp;omega) (λT=>?_)
  exact ap E (T,c.2++x.ids) (by rw[D,U.idss_cons,append_assoc]) (by simp only[map_append];exact Weak.rfl' _ _)
 ·exact N _ _ (Or.inl (Or.inr ⟨rfl,by rw[D];simp[U.idss,U.flats]⟩))
theorem f263 (u:U) (E:u.fit) (I:u.label.length<1000000000000000000) (F:u.head.length<1000000) (J:u.words.length<1000000):Pure G Tryz.prog 263 [.agg u.cs] (.bool (pJ u)):=by
 refine Pure.w c263 λR D=>?_
 unfold s263 r263
 (repeat' (first|(with_reducible (first|refine ab (λh=>?_) (λh=>?_)|refine ai (λh=>?_) (λh=>?_))<;>(try simp only[DZ]at h))|(with_reducible first|refine aa (f291 G _ F) ?_|refine aa (f291 G _ J) ?_|refine aa (f78 G _ I) ?_)|simp only[EVz,seval,↓reduceIte,EV6,EV7]))
 (all_goals(first|(refine RET.eq D ?_;(refine congrArg AV.bool (Bool.eq_iff_iff.2 ?_);simp only[pJ,EVB]at*;omega))|(refine RET.eq D ?_;((simp_all[pJ];done)))))
def zId:Idd:=⟨0,0,0⟩
def pH (u:U):Bool:=(u.ids.all λx=>decide (x=zId))||(decide (decide (u.id=zId)=decide (u.kind=0))&&decide u.ids.Nodup)
theorem gv (x y:Idd):(decide (x.act=y.act)&&(decide (x.item=y.item)&&(decide (x.n=y.n)&&true)))=decide (x=y):=by rw[mu,Bool.and_true]
theorem pu (x:Idd):(decide (x.act=0)&&(decide (x.item=0)&&(decide (x.n=0)&&true)))=decide (x=zId):=gv x zId
theorem f198 (u:U) (ht:u.Tame):Pure G Tryz.prog 198 [.agg u.cs] (.bool (pH u)):=by
 refine Pure.w c198 λR J=>?_
 unfold s198 r198
 have hl:u.ids.length<1000000:=by rw[U.ids_len];exact ht.2
 have h0:u.ids=u.id::U.idss u.kids:=U.ids_eq u
 obtain⟨l,N⟩:∃l,u.ids=l:=⟨_,rfl⟩
 have hA:=f56 G u ht
 unfold pH at J
 rw[N]at J hA hl
 have ah:0<l.length:=by rw[←N,h0];simp
 have M:(l.map Idd.cs).getD 0 []=[.int .i64 u.id.act,.int .i64 u.id.item,.int .i64 u.id.n]:=by rw[←N,h0];rfl
 (repeat' (first|(with_reducible (first|refine ab (λh=>?_) (λh=>?_)|refine ai (λh=>?_) (λh=>?_))<;>(try simp only[DZ]at h))|(with_reducible first|refine AI (by omega) ?_|refine aa hA ?_)|simp only[EVz,seval,↓reduceIte,EV6,EV7,M,pu,gv,E.yes,E.le0,E.lt',E.get,E.row,X]|simp only[EVz,seval,↓reduceIte,EV6,EV7,M,pu,gv,Y]|simp only[EVz,seval,↓reduceIte,EV6,EV7,M,pu,gv]|(refine ay (ι:=Bool) (l) (λi r c=>(l.all λx=>decide (x=zId))=(c&&r.all λx=>decide (x=zId))) (λi c=>[(1,.ref u.cs),(3,.lst 3 (l.map Idd.cs)),(4,.bool c),(5,.int .i64 i)]) (λ_ _=>[]) (true) (by rfl) (Weak.rfl' _ _) (by omega) (λi x r c D E X=>?_) (λc D Y=>?_))|(refine ap E _ ?_ (Weak.rfl' _ _))))
 ·rw[D,h];simp
 ·rw[D,h];simp
 ·exact RET.eq J (by rw[D,h];simp)
 ·refine RET.eq J ?_
  rw[D]
  simp only[all_nil,Bool.and_true]
  rename_i V
  rw[V]
  have:¬(decide (u.id=zId)=decide (u.kind=0)):=by simpa using h
  simp[this]
 ·rename_i V
  have I:(l.all λx=>decide (x=zId))=false:=by rw[D,V];rfl
  have T:(decide (u.id=zId)=decide (u.kind=0)):=by simpa using h
  rw[I,Bool.false_or,decide_eq_true T,Bool.true_and]at J
  clear D h V I T
  (repeat' (first|(with_reducible (refine ab (λh=>?_) (λh=>?_))<;>(try simp only[DZ]at h))|simp only[EVz,seval,↓reduceIte,EV6,EV7,gv,O.yes,O.le0,O.lt',O.row,ad,E.le0,E.lt',E.row]|simp only[EVz,seval,↓reduceIte,EV6,EV7,gv,ac,E.le0,E.lt',E.row,X]|simp only[EVz,seval,↓reduceIte,EV6,EV7,gv,E.yes,E.le0,E.lt',E.get,E.row,X]|simp only[EVz,seval,↓reduceIte,EV6,EV7,gv,Y]|(refine ap E () ?_ (Weak.rfl' _ _))|(refine ay (l) (λi r (c:Unit)=>(l.take i).Nodup) (λi c=>[(3,.lst 3 (l.map Idd.cs)),(6,.int .i64 i)]) (λ_ _=>[]) () (by((simp;done))) (Weak.rfl' _ _) (by omega) (λi x r c D E X=>?_) (λc D Y=>?_))|(refine W_take (l) (i) (Nat.le_of_lt E.lt) (λk (c:Unit)=>¬x∈l.take k) (λk c=>[(3,.lst 3 (l.map Idd.cs)),(6,.int .i64 i),(7,.int .i64 k)]) (λ_ _=>[]) () (by simp) (Weak.rfl' _ _) (by have:=E.lt;omega) (λk y c F O ad=>?_) (λc F ac=>?_))|(refine qz O () ?_ (Weak.rfl' _ _))))
  ·refine RET.eq J (congrArg AV.bool (Eq.symm (decide_eq_false ?_)))
   intro Z
   subst h
   exact qS E Z O.mem
  ·rw[O.take];simp[F,Ne.symm h]
  ·rw[E.take]
   exact nodup_append.2 ⟨D,by simp,by intro a ha b hb e;simp only[mem_singleton]at hb;subst hb e;exact F ha⟩
  ·rw[take_length]at D
   exact RET.eq J (by rw[decide_eq_true D])
def pr (l:List U):Prop:=(l.map λk=>(k.kind,k.label)).Nodup
instance (l:List U):Decidable (pr l):=inferInstanceAs (Decidable (List.Nodup _))
mutual
def U.right:U->Bool
 |⟨i,k,l,h,w,ks⟩=>pJ ⟨i,k,l,h,w,ks⟩&&(U.rights k ks&&decide (pr ks))
def U.rights:Int->List U->Bool
 |_,[]=>true
 |k,u::us=>(pl k u.kind&&U.right u)&&U.rights k us
end
theorem U.right_eq (u:U):u.right=(pJ u&&(U.rights u.kind u.kids&&decide (pr u.kids))):=by cases u;rw[U.right]
def U.Short (u:U):Prop:=u.Tame/\∀x∈u.flat,x.label.length<1000000000000000000/\x.head.length<1000000/\x.words.length<1000000/\(∀w∈x.head,w.text.length<1000000000000000000)/\(∀w∈x.words,w.text.length<1000000000000000000)
theorem U.flat_kid {u k x:U} (D:k∈u.kids) (E:x∈k.flat):x∈u.flat:=by
 rw[U.flat_eq]
 refine mem_cons_of_mem _ ?_
 have:∀us:List U,k∈us->x∈U.flats us:=by
  intro us
  induction us with
  |nil=>intro h;cases h
  |cons a us ih=>
   intro h
   rw[U.flats]
   rcases mem_cons.1 h with rfl|h
   ·exact mem_append.2 (.inl E)
   ·exact mem_append.2 (.inr (ih h))
 exact this _ D
theorem U.flat_self (u:U):u∈u.flat:=by rw[U.flat_eq];simp
theorem U.Short.kid {u k:U} (h:u.Short) (D:k∈u.kids):k.Short:=⟨h.1.kid D,λx E=>h.2 x (U.flat_kid D E)⟩
theorem qC {l:List U} {i:Nat} {x y:U} {r:List U} (I:Rest l i x r) (J:y∈l.take i) (E:y.kind=x.kind) (F:y.label=x.label):¬pr l:=by
 intro h
 unfold pr at h
 have D:((l.take (i+1)).map λk=>(k.kind,k.label)).Nodup:=h.sublist ((take_sublist (i+1) l).map _)
 rw[I.take,map_append]at D
 exact(nodup_append.1 D).2.2 (y.kind,y.label) (mem_map.2 ⟨y,J,rfl⟩) (x.kind,x.label) (by simp) (by rw[E,F])
theorem qe {l:List U} {i:Nat} {x:U} {r:List U} (I:Rest l i x r) (h:pr (l.take i)) (F:∀y∈l.take i,¬(y.kind=x.kind/\y.label=x.label)):pr (l.take (i+1)):=by
 unfold pr at*
 rw[I.take,map_append]
 refine nodup_append.2 ⟨h,by simp,?_⟩
 intro a E b D e
 obtain⟨y,J,rfl⟩:=mem_map.1 E
 have D:b=(x.kind,x.label):=by simpa using D
 subst D
 injection e with e1 e2
 exact F y J ⟨e1,e2⟩
theorem f197:∀(u:U),u.Short->Pure G Tryz.prog 197 [.agg u.cs] (.bool u.right):=by
 refine U.ind λu ih T=>?_
 have ah:=T.1.kids
 have V:=T.2 u u.flat_self
 have N:=T.1.1
 have ac:pr ([]:List U):=by unfold pr;simp
 refine Pure.w c197 λR M=>?_
 unfold s197 r197
 rw[U.right_eq]at M
 (repeat' (first|(with_reducible (first|refine ab (λh=>?_) (λh=>?_)|refine ai (λh=>?_) (λh=>?_))<;>(try simp only[DZ]at h))|(with_reducible first|refine aa (f263 G u N V.1 V.2.1 V.2.2.1) ?_|refine aa (f74 G _ _) ?_|refine aa (ih x D.mem (T.kid D.mem)) ?_)|simp only[EVz,seval,↓reduceIte,EV6,EV7,J.yes,J.le0,J.lt',J.row,Z,D.le0,D.lt',D.row]|simp only[EVz,seval,↓reduceIte,EV6,EV7,Y,D.le0,D.lt',D.row,hw]|simp only[EVz,seval,↓reduceIte,EV6,EV7,D.yes,D.le0,D.lt',D.get,D.row,hw]|simp only[EVz,seval,↓reduceIte,EV6,EV7,hn]|simp only[EVz,seval,↓reduceIte,EV6,EV7]|(with_reducible intro ad E;(try(have O:=E;simp only[EVK]at O;(have al:=O))))|(refine ap D () ?_ (Weak.rfl' _ _))|(refine ay (u.kids) (λi r (c:Unit)=>U.rights u.kind u.kids=U.rights u.kind r/\pr (u.kids.take i)) (λi c=>[(1,.ref u.cs),(3,.int .i64 i)]) (λ_ _=>[]) () (by((simp[*];done))) (Weak.rfl' _ _) (by omega) (λi x r c F D hw=>?_) (λc F hn=>?_))|(refine W_take (u.kids) (i) (Nat.le_of_lt D.lt) (λk (c:Unit)=>∀y∈u.kids.take k,¬(y.kind=x.kind/\y.label=x.label)) (λk c=>[(1,.ref u.cs),(3,.int .i64 i),(4,.int .i64 k)]) (λ_ _=>[]) () (by simp) (Weak.rfl' _ _) (by have:=D.lt;omega) (λk y c I J Z=>?_) (λc I Y=>?_))|(refine qz J () ?_ (Weak.rfl' _ _))))
 ·exact RET.eq M (by rw[h];rfl)
 ·exact RET.eq M (by rw[F.1,U.rights,h,Bool.and_false];simp)
 ·exact RET.eq M (by rw[decide_eq_false (qC D J.mem (by assumption) h)];simp)
 ·rw[J.take]at E
  rcases mem_append.1 E with hb|hb
  ·exact I _ hb
  ·simp only[mem_singleton]at hb;subst hb;exact λe=>h e.2
 ·rw[J.take]at E
  rcases mem_append.1 E with hb|hb
  ·exact I _ hb
  ·simp only[mem_singleton]at hb;subst hb;exact λe=>h e.1
 ·rename_i X
  exact⟨by rw[F.1,U.rights,X,h];rfl,qe D F.2 I⟩
 ·exact RET.eq M (by rw[F.1,U.rights,h];simp)
 ·rw[take_length]at F
  exact RET.eq M (by rw[F.1,h,U.rights,decide_eq_true F.2];rfl)
def pF (u:U):Bool:=u.right&&(decide (u.dep<=8)&&(decide (u.cnt<=1024)&&pH u))
theorem f107 (u:U) (F:u.Short):Pure G Tryz.prog 107 [.agg u.cs] (.bool (pF u)):=by
 have D:=F.1
 refine Pure.w c107 λR E=>?_
 unfold s107 r107
 (repeat' (first|(with_reducible (refine ai (λh=>?_) (λh=>?_))<;>(try simp only[DZ]at h))|(with_reducible first|refine aa (f197 G u F) ?_|refine aa (f77 G u D) ?_|refine aa (f138 G u D) ?_|refine aa (f198 G u D) ?_)|simp only[EVz,seval,↓reduceIte,EV6,EV7]))
 (all_goals(first|(refine RET.eq E ?_;(refine congrArg AV.bool (Bool.eq_iff_iff.2 ?_);simp only[pF,EVB]at*;omega))|(refine RET.eq E ?_;((simp_all[pF];done)))))
end
section
def Wd.bare (w:Wd):Wd:=⟨w.text,0,0,0⟩
mutual
def U.strip:U->U
 |⟨_,k,l,h,w,ks⟩=>⟨⟨0,0,0⟩,k,l,h.map Wd.bare,w.map Wd.bare,U.strips ks⟩
def U.strips:List U->List U
 |[]=>[]
 |u::us=>U.strip u::U.strips us
end
theorem U.strips_map:∀us:List U,U.strips us=us.map U.strip
 |[]=>rfl
 |u::us=>by rw[U.strips,U.strips_map us];rfl
theorem U.strip_eq (u:U):u.strip=⟨⟨0,0,0⟩,u.kind,u.label,u.head.map Wd.bare,u.words.map Wd.bare,u.kids.map U.strip⟩:=by cases u;rw[U.strip,U.strips_map]
theorem qj {e:TypeId} {sz bytes n m m':Nat} {τ:Store} (κ:Store) {g:Option Nat} {rows:List (List AV)} {cs:List AV} {K:List (List AV)->AV->Store->Prop} {b k1:Nat} (Y:τ=κ++tokS g e m) (M:∀d,g=some d->d∉κ.keys) (hr:rows.length=n) (hm:m=n*sz)
  (X:m'=(n+1)*sz) (hl:cs.length=sz) (O:b∉τ.keys) (E:(n+1)*bytes<=140737488355328) (hk:∀D,(∀d,D=some d->d∉κ.keys)->K [cs] (.own D e sz (rows++[cs])) (κ++tokS D e m')):
  ∃J:List (List AV),J.length=1/\(∀r∈J,r.length=sz)/\J.flatten=cs/\appX e sz bytes ((b,.tok e k1)::τ) g rows J (K J):=by
 subst hm X hr Y
 have T:b∉κ.keys:=λh=>O (by rw[az];exact mem_append.2 (.inl h))
 refine⟨[cs],rfl,by simpa using hl,by simp,fM κ (λd hd=>?_) (by simpa using E) ?_ (λD V=>by simpa using hk D V)⟩
 ·subst hd
  have h1:¬b=d:=by rintro rfl;exact O (by rw[az];exact mem_append.2 (.inr (by simp[tokS,Store.keys])))
  simp only[Store.get,if_neg h1]
  have Z:=M d rfl
  clear O T hk M
  induction κ with
  |nil=>simp[tokS,Store.get]
  |cons p κ ih=>
   obtain⟨c,y⟩:=p
   have h3:¬c=d:=by rintro rfl;exact Z (by simp[Store.keys])
   simp only[cons_append,Store.get,if_neg h3]
   exact ih (λh=>Z (by simp only[Store.keys,map_cons,mem_cons]at h ⊢;exact .inr h))
 ·refine⟨λp N=>?_,λE=>?_⟩
  ·have F:p∈((b,AObj.tok e k1)::(κ++tokS g e (rows.length*sz))):=mem_cons_of_mem _ (mem_append.2 (.inl N))
   cases g with
   |none=>exact F
   |some d=>
    refine mem_filter.2 ⟨F,?_⟩
    have:p.1≠d:=λe=>M d rfl (e ▸ mem_map.2 ⟨p,N,rfl⟩)
    simpa using this
  ·have h4:(Store.keys ((b,AObj.tok e k1)::(κ++tokS g e (rows.length*sz)))).Nodup\/True:=.inr trivial
   have key:∀(σ:Store),κ.keys.Sublist σ.keys->σ.keys.Nodup->κ.keys.Nodup:=λσ h E=>E.sublist h
   have I:κ.keys.Sublist (Store.erase ((b,AObj.tok e k1)::(κ++tokS g e (rows.length*sz))) g).keys:=by
    cases g with
    |none=>simp only[Store.erase,Store.keys,tokS,append_nil,map_cons];exact sublist_cons_self _ _
    |some d=>
     have hf:(κ.filter λp=>p.1≠d)=κ:=filter_eq_self.2 λp N=>by
      have:p.1≠d:=λe=>M d rfl (e ▸ mem_map.2 ⟨p,N,rfl⟩)
      simpa using this
     simp only[Store.erase,Store.keys]
     refine List.Sublist.map _ ?_
     rw[filter_cons,filter_append,hf]
     split
     ·exact(sublist_append_left _ _).trans (sublist_cons_self _ _)
     ·exact sublist_append_left _ _
   exact key _ I E
section
variable (G:Glob)
end
end
section
def pQ (u:U):Bool:=pF u&&decide (u=u.strip)
def px (u:U):Bool:=
 if u.kind=0 then decide (u.label=[])&&(decide ((u.head.length:Int)=0)&&decide ((u.words.length:Int)=0))
 else decide (0<u.kind)&&(decide (u.kind<=7)&&(br u.label&&(aU u.head&&aU u.words)))
mutual
def U.shape:Int->U->Bool
 |d,⟨i,k,l,h,w,ks⟩=>((decide (d<=8)&& !(decide (0<d)&&decide (k=0)))&&(px ⟨i,k,l,h,w,ks⟩&&decide ((ks.length:Int)<=64)))&&(U.shapes (d+1) k ks&&decide (pr ks))
def U.shapes:Int->Int->List U->Bool
 |_,_,[]=>true
 |d,k,u::us=>(pl k u.kind&&U.shape d u)&&U.shapes d k us
end
theorem U.shape_eq (u:U) (d:Int):u.shape d=(((decide (d<=8)&& !(decide (0<d)&&decide (u.kind=0)))&&(px u&&decide ((u.kids.length:Int)<=64)))&&(U.shapes (d+1) u.kind u.kids&&decide (pr u.kids))):=by cases u;rw[U.shape]
def pI (u:U):Bool:=u.shape 0&&decide (u.cnt<=1024)
section
variable (G:Glob)
end
end
section
def kindNames:List (List UInt8):=[[98,111,111,107],[112,97,114,116],[115,101,99,116,105,111,110],[112,97,114,97,103,114,97,112,104],[116,97,98,108,101],[114,111,119],[99,101,108,108],[110,111,116,101]]
def pL (k:Int):List UInt8:=kindNames.getD k.toNat []
def escT (t:List UInt8):List UInt8:=if t.getD 0 0=124\/t.getD 0 0=92 then 92::t else t
def pv (l:List Wd):List UInt8:=l.flatMap λw=>32::escT w.text
def lineT (u:U) (n:Nat):List UInt8:=
 List.replicate (2*n) 32++(pL u.kind++((if u.kind=0 then []else 32::u.label)++((if (0:Int)<u.head.length then 58::pv u.head else [])++(if (0:Int)<u.words.length then 32::124::pv u.words else []))))
def pB (u:U) (n:Nat):List UInt8:=if n<=8/\px u=true then lineT u n else []
mutual
def U.lines:Nat->U->List (List UInt8)
 |n,⟨i,k,l,h,w,ks⟩=>pB ⟨i,k,l,h,w,ks⟩ n::U.liness (n+1) ks
def U.liness:Nat->List U->List (List UInt8)
 |_,[]=>[]
 |n,u::us=>U.lines n u++U.liness n us
end
theorem U.lines_eq (u:U) (n:Nat):u.lines n=pB u n::U.liness (n+1) u.kids:=by cases u;rw[U.lines]
theorem U.liness_cons (u:U) (us:List U) (n:Nat):U.liness n (u::us)=u.lines n++U.liness n us:=by rw[U.liness]
theorem U.lines_len:∀(u:U) (n:Nat),(u.lines n).length=u.flat.length:=by
 refine U.ind λu ih n=>?_
 rw[U.lines_eq,U.flat_eq]
 simp only[length_cons]
 congr 1
 have:∀us:List U,(∀k∈us,∀m,(k.lines m).length=k.flat.length)->(U.liness (n+1) us).length=(U.flats us).length:=by
  intro us
  induction us with
  |nil=>intro _;rfl
  |cons a us iha=>intro h;rw[U.liness_cons,U.flats,length_append,length_append,h a (by simp),iha λk D=>h k (by simp[D])]
 exact this _ ih
theorem qK {l:List Wd} (h:aU l=true) {w:Wd} (E:w∈l):0<w.text.length/\w.text.length<=24:=by
 unfold aU at h
 simp only[Bool.and_eq_true,decide_eq_true_eq,all_eq_true]at h
 have D:=h.2 w E
 unfold wdOk bf at D
 simp only[Bool.and_eq_true,decide_eq_true_eq]at D
 omega
theorem row_len {l:List Wd} (h:aU l=true):l.length<=256:=by
 unfold aU at h
 simp only[Bool.and_eq_true,decide_eq_true_eq,all_eq_true]at h
 omega
theorem escT_len (t:List UInt8):(escT t).length<=t.length+1:=by unfold escT;split<;>simp
theorem qg:∀{l:List Wd},(∀w∈l,0<w.text.length/\w.text.length<=24)->(pv l).length<=l.length*26
 |[],_=>by simp[pv]
 |w::l,h=>by
  have E:=(h w (by simp)).2
  have F:=qg (l:=l) λx D=>h x (by simp[D])
  have I:=escT_len w.text
  unfold pv at*
  simp only[flatMap_cons,length_append,length_cons]
  omega
theorem pS (k:Int):(pL k).length<=9:=by
 unfold pL
 have:∀n:Nat,(kindNames.getD n []).length<=9:=λn=>by
  match n with
  |0|1|2|3|4|5|6|7=>decide
  |n+8=>simp[kindNames]
 exact this _
theorem pY {u:U} (h:px u=true):0<=u.kind/\u.kind<=7/\aU u.head=true/\aU u.words=true/\u.label.length<=9:=by
 unfold px at h
 split at h
 ·rename_i O
  simp only[Bool.and_eq_true,decide_eq_true_eq]at h
  obtain⟨E,F,D⟩:=h
  have I:u.head=[]:=length_eq_zero_iff.1 (by omega)
  have J:u.words=[]:=length_eq_zero_iff.1 (by omega)
  rw[I,J,E]
  exact⟨by omega,by omega,by decide,by decide,by simp⟩
 ·simp only[Bool.and_eq_true,decide_eq_true_eq]at h
  obtain⟨E,F,D,M,N⟩:=h
  refine⟨by omega,F,M,N,?_⟩
  unfold br at D
  simp only[Bool.and_eq_true,decide_eq_true_eq]at D
  omega
theorem pK {l:List Wd} (h:aU l=true):(pv l).length<=6656:=by
 have:=qg λw D=>qK h D
 have:=row_len h
 omega
section
variable (G:Glob)
theorem qT (u:U) (n:Nat):(pB u n).length<=20000:=by
 unfold pB
 split
 ·rename_i h
  obtain⟨F,I,D,E,J⟩:=pY h.2
  have M:=pK D
  have N:=pK E
  have O:=pS u.kind
  unfold lineT
  simp only[length_append,length_replicate]
  have c1:(if u.kind=0 then []else 32::u.label).length<=10:=by split<;>simp;omega
  have c2:(if (0:Int)<u.head.length then 58::pv u.head else []).length<=6657:=by split<;>simp;omega
  have c3:(if (0:Int)<u.words.length then 32::124::pv u.words else []).length<=6658:=by split<;>simp;omega
  omega
 ·simp
def pZ (u:U):List UInt8:=(u.lines 0).flatMap λl=>l++[10]
def pD (u:U):List UInt8×Int:=if pI u then (if (16384:Int)<(pZ u).length then ([],6)else (pZ u,0))else ([],1)
theorem qO (u:U):∀(n:Nat),∀l∈u.lines n,l.length<=20000:=by
 induction u using U.ind with
 |h u ih=>
  intro n
  rw[U.lines_eq]
  have key:∀us:List U,(∀k∈us,∀m,∀l∈k.lines m,l.length<=20000)->∀l∈U.liness (n+1) us,l.length<=20000:=by
   intro us
   induction us with
   |nil=>intro _ l D;cases D
   |cons a us iha=>
    intro h l D
    rw[U.liness_cons]at D
    rcases mem_append.1 D with D|D
    ·exact h a (by simp) _ l D
    ·exact iha (λk E=>h k (by simp[E])) l D
  intro l D
  rcases mem_cons.1 D with rfl|D
  ·exact qT u n
  ·exact key u.kids ih l D
end
end
structure GOk (G:Glob):Prop where
 names:G.tab 3=some (kindNames.map AV.str)
 below:G.tab 1=some [.lst 1 (([1,2]:List Int).map irow),.lst 1 (([2]:List Int).map irow),.lst 1 (([3,4,7]:List Int).map irow),.lst 1 (([3,4,7]:List Int).map irow),.lst 1 (([5]:List Int).map irow),.lst 1 (([6]:List Int).map irow),.nil,.nil]
 order:G.tab 0=some [.sc (.func (.func 353) #[] #[]),.sc (.func (.func 354) #[] #[])]
theorem eval_g {G:Glob} {i:Nat} {cs:List AV} (h:G.tab i=some cs):∀env,SOpd.eval G env (.g i)= .ref cs:=by intro env;simp only[SOpd.eval,h]
theorem lt8 {k:Int} (D:0<=k) (E:k<=7):k=0\/k=1\/k=2\/k=3\/k=4\/k=5\/k=6\/k=7:=by omega
section
variable (G:Glob) (hG:GOk G)
include hG
theorem f292 (k:Int):Pure G Tryz.prog 292 [.int .i64 k] (.str (if 0<=k/\k<=7 then pL k else [])):=by
 have F:=eval_g hG.names
 refine Pure.w c292 λR D=>?_
 unfold s292 r292
 by_cases E:0<=k/\k<=7
 ·rw[if_pos E]at D
  rcases lt8 E.1 E.2 with rfl|rfl|rfl|rfl|rfl|rfl|rfl|rfl<;>((repeat' (simp only[EVz,seval,↓reduceIte,EV6,EV7,F,kindNames,List.map,Int.toNat,List.drop,List.headD,List.length]));exact RET.eq D rfl)
 ·rw[if_neg E]at D
  (repeat' (first|(with_reducible (first|refine ab (λh=>?_) (λh=>?_)|refine ai (λh=>?_) (λh=>?_))<;>(try simp only[DZ]at h))|(with_reducible refine AI (by omega) ?_)|simp only[EVz,seval,↓reduceIte,EV6,EV7]|(exfalso;omega)))
  (all_goals((exact RET.eq D rfl)))
theorem f122 (p k:Int):Pure G Tryz.prog 122 [.int .i64 p,.int .i64 k] (.bool (pl p k)):=by
 have F:=eval_g hG.below
 refine Pure.w c122 λR E=>?_
 unfold s122 r122
 by_cases I:0<=p/\p<=7
 ·rcases lt8 I.1 I.2 with rfl|rfl|rfl|rfl|rfl|rfl|rfl|rfl
  ·have D:=f213 G [1,2] k (by decide);simp only[List.map]at D
   (repeat' (first|(with_reducible refine aa D ?_)|simp only[EVz,seval,↓reduceIte,EV6,EV7,F,List.drop,List.headD,List.length]))
   refine RET.eq E ?_;simp[pl]
  ·have D:=f213 G [2] k (by decide);simp only[List.map]at D
   (repeat' (first|(with_reducible refine aa D ?_)|simp only[EVz,seval,↓reduceIte,EV6,EV7,F,List.drop,List.headD,List.length,Int.toNat]))
   refine RET.eq E ?_;simp[pl]
  ·have D:=f213 G [3,4,7] k (by decide);simp only[List.map]at D
   (repeat' (first|(with_reducible refine aa D ?_)|simp only[EVz,seval,↓reduceIte,EV6,EV7,F,List.drop,List.headD,List.length,Int.toNat]))
   refine RET.eq E ?_;simp[pl,Bool.or_assoc]
  ·have D:=f213 G [3,4,7] k (by decide);simp only[List.map]at D
   (repeat' (first|(with_reducible refine aa D ?_)|simp only[EVz,seval,↓reduceIte,EV6,EV7,F,List.drop,List.headD,List.length,Int.toNat]))
   refine RET.eq E ?_;simp[pl,Bool.or_assoc]
  ·have D:=f213 G [5] k (by decide);simp only[List.map]at D
   (repeat' (first|(with_reducible refine aa D ?_)|simp only[EVz,seval,↓reduceIte,EV6,EV7,F,List.drop,List.headD,List.length,Int.toNat]))
   refine RET.eq E ?_;simp[pl]
  ·have D:=f213 G [6] k (by decide);simp only[List.map]at D
   (repeat' (first|(with_reducible refine aa D ?_)|simp only[EVz,seval,↓reduceIte,EV6,EV7,F,List.drop,List.headD,List.length,Int.toNat]))
   refine RET.eq E ?_;simp[pl]
  all_goals
   have D:=f213 G [] k (by decide);simp only[List.map]at D
   (repeat' (first|simp only[EVz,seval,↓reduceIte,EV6,EV7,F,List.drop,List.headD,List.length,Int.toNat]|(refine aE D ⟨.inl (.inr rfl),⟨.inl (.inl rfl),trivial⟩⟩ ?_)))
   refine RET.eq E ?_;simp[pl]
 ·have e:pl p k=false:=by unfold pl;rw[if_neg (by omega),if_neg (by omega),if_neg (by omega),if_neg (by omega),if_neg (by omega)]
  rw[e]at E
  (repeat' (first|(with_reducible (refine ai (λh=>?_) (λh=>?_))<;>(try simp only[DZ]at h))|(with_reducible refine AI (by omega) ?_)|simp only[EVz,seval,↓reduceIte,EV6,EV7]|(exfalso;omega)))
  (all_goals((exact RET.eq E rfl)))
end
end Go.Av
section
namespace Go.Av
open Go Go.RowKit Go.Proofs List
set_option linter.unusedVariables false
theorem calls_of {P:Program} {G:Glob} {k:FuncId} {args:List AV} {r:AV} (h:Pure G P k args r) {W:World} (hG:G.holds [] W) {vs:Array Value} (D:RepL [] W args vs.toList):
  Calls P k vs W λe W'=>∃v,e= .returned v/\Rep [] W' r v/\Below W.heap.size W W':=by
 have E:Sat G ([]++[]) W:=⟨by simp[Store.keys],λb x J=>by simp at J,hG⟩
 refine(h.2 [] W vs E D).mono ?_
 rintro e W' ⟨v,M,σ',rfl,⟨rfl,rfl⟩,_,ev,I⟩
 exact⟨v,rfl,I,ev.os,ev.tape,ev.output,ev.size,λk F=>(ev.block k F (by simp[Store.keys])).1⟩
theorem tab_of {P:Program} {w:World} {F:String} {d:DataW Unit} {g:Nat} {t:TypeId} {D:List AV} (n:Nat) (T:Go.Lib.VarReads P w F d) (E:P.globalNamed F=some g) (V:(P.globals[g]?).map (·.type)=some t) (O:avD P n t d=some D):
  RepAt [] w ⟨g,0,none⟩ 0 D:=by
 obtain⟨X,Y,cs,fuel,p,I,J,M,N⟩:=T
 obtain rfl:=Option.some.inj (E.symm.trans I)
 obtain rfl:=Option.some.inj (V.symm.trans J)
 exact l0 E M (mE n t d D O fuel cs.toList p N)
def qh:List AV:=kindNames.map AV.str
def qn:List AV:=[.lst 1 (([1,2]:List Int).map irow),.lst 1 (([2]:List Int).map irow),.lst 1 (([3,4,7]:List Int).map irow),.lst 1 (([3,4,7]:List Int).map irow),.lst 1 (([5]:List Int).map irow),.lst 1 (([6]:List Int).map irow),.nil,.nil]
def pT:List AV:=[.sc (.func (.func 353) #[] #[]),.sc (.func (.func 354) #[] #[])]
def GL:Glob:=globOf [(3,qh),(1,qn),(0,pT)]
end Go.Av
namespace Go.Proofs.YtnoakpkjccigoaaGreatDoor
open Go.ChangeShapes Go.WideShapes Go.ChangeAt Go.RowKit
set_option linter.unusedVariables false
theorem own:ownKnob Tryz.prog.godebug=none:=by kernel_rfl
def litV:DataW Unit->Value
 | .lit (.int k n)=>.int k n
 |_=>.nilFunc
def litsV:DataW Unit->List Value
 | .agg ds=>ds.map litV
 |_=>[]
theorem gNames:Tryz.prog.globalNamed "pandect/unit.names" =some 3:=by kernel_rfl
theorem gBelow:Tryz.prog.globalNamed "pandect/unit.below" =some 1:=by kernel_rfl
theorem gOrder:Tryz.prog.globalNamed "pandect/syntax.order" =some 0:=by kernel_rfl
theorem tOrder:(Tryz.prog.globals[0]?).map (·.type)=some 142:=by kernel_rfl
theorem has_fn:((List.range Tryz.prog.funcs.size).filter λf=>(Tryz.prog.funcs[f]?).any (·.name.toUTF8.data.toList==112::[97,110,100,101,99,116,47,115,121,110,116,97,120,46,111,114,100,101,114,36,49]))=[353]:=by kernel_rfl
theorem may_fn:((List.range Tryz.prog.funcs.size).filter λf=>(Tryz.prog.funcs[f]?).any (·.name.toUTF8.data.toList==112::[97,110,100,101,99,116,47,115,121,110,116,97,120,46,111,114,100,101,114,36,50]))=[354]:=by kernel_rfl
theorem cells83:Tryz.prog.cellsOf 140=1:=by kernel_rfl
theorem cells35:Tryz.prog.cellsOf 99=1:=by kernel_rfl
theorem order_of {W:World} (h:funcsAt Tryz.prog W "pandect/syntax.order" (.agg [.iface "func" (.lit (.string [112,97,110,100,101,99,116,47,115,121,110,116,97,120,46,111,114,100,101,114,36,49])),.iface "func" (.lit (.string [112,97,110,100,101,99,116,47,115,121,110,116,97,120,46,111,114,100,101,114,36,50]))])):
  Go.Av.RepAt [] W ⟨0,0,none⟩ 0 Go.Av.pT:=by
 obtain⟨g,t,cs,fuel,p,Z,ht,hv,Y⟩:=h
 obtain rfl:=Option.some.inj (gOrder.symm.trans Z)
 obtain rfl:=Option.some.inj (tOrder.symm.trans ht)
 obtain⟨xs,n,hn,hx,hl,O,E⟩:=DataW.trod_struct Tryz.underlying142 Y
 have N:cs.toList.length=2:=hl.trans (by kernel_rfl)
 obtain⟨u,v,D⟩:∃u v,cs.toList=[u,v]:=by
  match hcs:cs.toList,N with
  |[u,v],_=>exact⟨u,v,rfl⟩
 have J:DataW.trod (funcToken Tryz.prog) Tryz.prog W 0 (λ_=>true) true n 140 ((cs.toList.drop 0).take (Tryz.prog.cellsOf 140))=xs[0]? :=E 0 _ rfl
 have M:DataW.trod (funcToken Tryz.prog) Tryz.prog W 0 (λ_=>true) true n 99 ((cs.toList.drop 1).take (Tryz.prog.cellsOf 99))=xs[1]? :=E 1 _ rfl
 have X:=congrArg Prod.fst hx
 rw[D]at J M
 simp only[cells83,cells35,List.drop_zero,List.take_succ_cons,List.take_zero,List.drop_succ_cons]at J M
 obtain⟨F,I,rfl⟩:∃F I,xs=[F,I]:=by
  match xs,O with
  |[F,I],_=>exact⟨F,I,rfl⟩
 simp only[List.map_cons,List.map_nil,DataW.funcsOut,DataW.funcsOutAll,DataW.agg.injEq,List.cons.injEq,and_true]at X
 obtain⟨T,V⟩:=X
 have hu:=func_of_trod (q:=F.2) Tryz.underlying140 has_fn (by rw[if_pos (beq_self_eq_true _)]at T;rw[T];exact J)
 have hw:=func_of_trod (q:=I.2) Tryz.underlying99 may_fn (by rw[if_pos (beq_self_eq_true _)]at V;rw[V];exact M)
 subst hu hw
 refine Go.Av.l0 gOrder hv ⟨?_,?_⟩
 ·rw[D]
  simp only[Go.Av.pT,Go.Av.RepL,Go.Av.Rep]
  exact⟨_,_,rfl,rfl,_,_,rfl,rfl,rfl⟩
 ·rw[D]
  simp[Value.oneCell']
noncomputable def tNamesT:TypeId:=((Tryz.prog.globals[3]?).map (·.type)).getD 0
theorem tNames:(Tryz.prog.globals[3]?).map (·.type)=some tNamesT:=by kernel_rfl
theorem tNamesD:Go.Av.avD Tryz.prog 6 tNamesT (Rows.laid_pandect_unit_names (H:=Unit))=some Go.Av.qh:=by kernel_rfl
noncomputable def tBelowT:TypeId:=((Tryz.prog.globals[1]?).map (·.type)).getD 0
theorem tBelow:(Tryz.prog.globals[1]?).map (·.type)=some tBelowT:=by kernel_rfl
theorem tBelowD:Go.Av.avD Tryz.prog 6 tBelowT (Rows.laid_pandect_unit_below (H:=Unit))=some Go.Av.qn:=by kernel_rfl
theorem qU {L:List (String×DataW Unit)} {W:World} (h:laidMetH Tryz.prog L W)
  (F:("pandect/unit.names",Rows.laid_pandect_unit_names (H:=Unit))∈L.filter λx=>x.2.handleName?.isNone)
  (I:("pandect/unit.below",Rows.laid_pandect_unit_below (H:=Unit))∈L.filter λx=>x.2.handleName?.isNone)
  (J:("pandect/syntax.order",Rows.laid_pandect_syntax_order (H:=Unit))∈L):Go.Av.GL.holds [] W:=by
 obtain⟨D,_⟩:=laidMetH_iff.1 h
 intro p E
 simp only[List.mem_cons,List.not_mem_nil,or_false]at E
 rcases E with rfl|rfl|rfl
 ·exact Go.Av.tab_of 6 (Go.Lib.laidMet.reads D F) gNames tNames tNamesD
 ·exact Go.Av.tab_of 6 (Go.Lib.laidMet.reads D I) gBelow tBelow tBelowD
 ·exact order_of (laidMetH.funcs h J)
noncomputable def pC (os:Os):World:=
 let w0:=World.doorLaid Tryz.prog 600 os
 {w0 with heap:=w0.heap.modify 4 (λ
   | .cells _ t frozen=>.cells (litsV Rows.laid_unicode_utf8_first).toArray t frozen
   |o=>o)}
end Go.Proofs.YtnoakpkjccigoaaGreatDoor
end
namespace Go.Proofs.YtnoakpkjccigoaaGreatDoor
open Go.ChangeShapes Go.WideShapes Go.ChangeAt Go.RowKit
set_option linter.unusedSimpArgs false
set_option linter.unusedVariables false
section
theorem and_mk {a b:Bool} (D:a=true) (E:b=true):(a&&b)=true:=by rw[D,E];rfl
theorem cellsU:Tryz.prog.cellsOf 27=8:=by kernel_rfl
abbrev laidL:List (String×DataW Unit):=Rows.undoSingleRow.laid
set_option maxRecDepth 100000
theorem met (os:Os) (args:Array Value):laidMetH Tryz.prog laidL ((pC os).forCall (λ_ _=>0) ⟨#[],args,[]⟩).memory:=
 laidMetH_of_parts3 (fuel:=40) (laidMet_of_run' 40 (by kernel_rfl) (by kernel_rfl)) (by kernel_rfl) (by kernel_rfl)
theorem varsOk (os:Os) (args:Array Value):((pC os).forCall (λ_ _=>0) ⟨#[],args,[]⟩).variablesRefB Tryz.checked.prog=true:=by kernel_rfl
def RestOk (C:Checked) (w0:World) (args:Array Value):Prop:=((w0.forCall (λ_ _=>0) ⟨#[],args,[]⟩).heap.toList.drop C.prog.globals.size).take ((begin C.prog (λ_ _=>0) default).world.heap.size-C.prog.globals.size)=
   (begin C.prog (λ_ _=>0) default).world.heap.toList.drop C.prog.globals.size
theorem restOk (os:Os) (args:Array Value):RestOk Tryz.checked (pC os) args:=by unfold RestOk;kernel_rfl
end
end Go.Proofs.YtnoakpkjccigoaaGreatDoor
namespace Go.Av
open Go Go.RowKit Go.Proofs List
set_option linter.unusedSimpArgs false
set_option linter.unusedVariables false
structure GOk2 (G:Glob):Prop where
 max:∀τ w,Sat G τ w->∃m,w.cell? ⟨8,0,none⟩=some (.int .i64 m)
 pow:∀τ w,Sat G τ w->Lib.TabIs Tryz.prog w "internal/strconv.uint64pow10" .u64 Lib.pow10Tab
section
variable (G:Glob)
theorem f51 (hG:GOk2 G) (n:Int) (E: -9223372036854775808<=n) (F:n<=9223372036854775807):Pure G Tryz.prog 51 [.int .i64 n] (.str (Lib.itoa n)):=by
 refine Pure.of_calls Tryz.func51 (by kernel_rfl) (by kernel_rfl) λτ w vs J I=>?_
 obtain⟨u,rfl,D⟩:=vs_one I
 simp only[Rep]at D
 subst D
 refine⟨.string ⟨(Lib.itoa n).toArray⟩,λ_ _=>by simp only[Rep],?_⟩
 refine(Tryz.strconv_Itoa n E F w (hG.pow τ w J)).mono ?_
 rintro e w' ⟨rfl,k,os,rfl⟩
 exact⟨rfl,Lib.below_grow _ _ (Nat.le_refl _) _ _⟩
end
end Go.Av
