/-
  LINT, 13: valid trees by the reference.
-/
import Derived.Test.YtppjieiiibgagaaGreatDoorQXL9toXL12
set_option linter.all false
namespace Go.Av
open Go Go.RowKit Go.Proofs List
def cx {e:TypeId} {sz bytes m m':Nat} {σ:Store} {g:Option Nat} {rows ys:List (List AV)} {K:AV->Store->Prop} (F:∀d,g=some d->σ.get d=some (.tok e m)) (J:m=rows.length*sz) (E:m'=(rows++ys).length*sz)
  (M:(rows.length+ys.length)*bytes<=140737488355328) (I:∀D,K (.own D e sz (rows++ys)) (tokS D e m')):appX e sz bytes σ g rows ys K:=by
 subst J E
 exact gj [] F M (SubN.nil _) (λD _=>by simpa using I D)
/-! ### an inner loop over the first elements of a list -/
structure RestT {α:Type} (l:List α) (i k:Nat) (y:α):Prop where
 lt:k<i
 lt':(k:Int)<(l.length:Int)
 yes:decide ((k:Int)<(i:Int))=true
 le0:(0:Int)<=(k:Int)
 row:∀{β:Type} (f:α->β) (d:β),(l.map f).getD k d=f y
 mem:y∈l.take i
 take:l.take (k+1)=l.take k++[y]
def LT {ι:Type} (G:Glob) (i:Nat) (ok:Nat->ι->Prop) (st:Nat->ι->Env) (D:Nat->ι->Store) (k:Nat):Env->Store->Prop:=
 λenv σ=>∃j:Nat×ι,(j.1<=i/\ok j.1 j.2)/\i-j.1<i-k/\Weak G env σ (st j.1 j.2) (D j.1 j.2)
def jD {α ι:Type} {G:Glob} {l:List α} {i k:Nat} {y:α} {ok:Nat->ι->Prop} {st:Nat->ι->Env} {E:Nat->ι->Store} {env:Env} {σ:Store} (D:RestT l i k y) (c:ι) (h:ok (k+1) c) (F:Weak G env σ (st (k+1) c) (E (k+1) c)):
  LT G i ok st E k env σ:=⟨(k+1,c),⟨D.lt,h⟩,by have:=D.lt;show i-(k+1)<i-k;omega,F⟩
def lX {α ι:Type} {G:Glob} {P:Program} {a:SCode} {Q:Exit->Env->Store->Prop} {T:Tag Q} {env:Env} {σ:Store} (l:List α) (i:Nat) (hi:i<=l.length) (ok:Nat->ι->Prop) (st:Nat->ι->Env) (D:Nat->ι->Store) (c0:ι)
  (M:ok 0 c0) (O:Weak G env σ (st 0 c0) (D 0 c0)) (V:i<9000000000000000000)
  (F:∀k y c,ok k c->RestT l i k y->IntKind.i64.wrap ((k:Int)+1)=((k+1:Nat):Int)->W G P a (NR (LT G i ok st D k) Q ⟨⟩ ⟨⟩) (st k c) (D k c) ⟨⟩)
  (I:∀c,ok i c->decide ((i:Int)<(i:Int))=false->W G P a (NR (LT G i ok st D i) Q ⟨⟩ ⟨⟩) (st i c) (D i c) ⟨⟩):W G P (.loop a) Q env σ T:=by
 refine gS (ι:=Nat×ι) (λj=>j.1<=i/\ok j.1 j.2) (λj=>i-j.1) (λj=>st j.1 j.2) (λj=>D j.1 j.2) (0,c0) ⟨Nat.zero_le _,M⟩ O ?_
 rintro⟨k,c⟩ ⟨N,J⟩
 simp only at N J ⊢
 rcases Nat.lt_or_ge k i with hk|hk
 ·have E:k<l.length:=by omega
  refine F k l[k] c J ⟨hk,by omega,by simpa using hk,by omega,λf d=>by simp[E],?_,take_succ_eq_append_getElem E⟩ (fF (by omega));exact mem_iff_getElem.2 ⟨k,by simp;omega,by simp⟩
 ·obtain rfl:k=i:=by omega
  exact I c J (by simp)
def rJ {α:Type} {l:List α} {i:Nat} {x:α} {r:List α} (I:Rest l i x r) (D:l.Nodup):¬x∈l.take i:=by
 intro F;have E:(l.take (i+1)).Nodup:=D.sublist (take_sublist (i+1) l);rw[I.take]at E;exact(nodup_append.1 E).2.2 x F x (by simp) rfl
def dD {b:Nat} {e:TypeId} {k:Nat}:∀d,some b=some d->Store.get [(b,AObj.tok e k)] d=some (.tok e k):=by
 rintro d h;injection h with h;subst h;simp[Store.get]
def U.ids (u:U):List Idd:=u.flat.map U.id
def U.idss (us:List U):List Idd:=(U.flats us).map U.id
def rb (u:U):u.ids=u.id::U.idss u.kids:=by unfold U.ids U.idss;rw[U.flat_eq];rfl
def hJ (u:U) (us:List U):U.idss (u::us)=u.ids++U.idss us:=by unfold U.ids U.idss;rw[U.flats,map_append]
def rZ (u:U):u.ids.length=u.flat.length:=by simp[U.ids]
def gI (u:U):Bool:=
 (decide (0<=u.kind)&&(decide (u.kind<=7)&&(decide ((u.kids.length:Int)<=64)&&(ba u.head&&ba u.words))))&&
 (if u.kind=0 then decide (u.label=[])&&(decide ((u.head.length:Int)=0)&&decide ((u.words.length:Int)=0))else bK u.label)
section
variable (G:Glob)
def f53:∀(u:U),u.Tame->Pure G Tryz.prog 53 [.agg u.cs] (.lst 3 (u.ids.map Idd.cs)):=by
 refine U.ind λu ih M=>?_;have X:=M.kids;have hc:=M.2;refine Pure.w c53 λR N=>?_;unfold s53 r53;rw[rb]at N
 have O:u.flat.length=1+(U.idss u.kids).length:=by rw[←rZ,rb,length_cons];omega
 (repeat' (first|(with_reducible refine ab (ih x E.mem (M.kid E.mem)) ?_)|simp only[EV,seval,E.yes,E.le0,E.lt',E.get,E.row,hw]|simp only[EV,seval,Y]|simp only[EV,seval]|(with_reducible intro J F;(try(have I:=F;simp only[EVK]at I;(have Z:=I))))|(refine⟨[u.id.cs],rfl,(by simp[Idd.cs]),(by simp[Idd.cs]),?_⟩)|(refine ap (ι:=Option Nat×List Idd) u.kids (λi r c=>u.id::U.idss u.kids=c.2++U.idss r) (λi c=>[(1,.ref u.cs),(3,.own c.1 23 3 (c.2.map Idd.cs)),(4,.i i)]) (λi c=>tokS c.1 23 (c.2.length*3)) (some J,[u.id]) rfl (dT _ _) (by omega) (λi x r c D E hw=>?_) (λc D Y=>?_))))
 ·have V:=congrArg List.length D;simp only[length_cons,length_append,hJ]at V;refine cx (m':=(c.2++x.ids).length*3) aS (by simp) (by simp) (by simp;omega) (λT=>?_);exact ak E (T,c.2++x.ids) (by rw[D,hJ,append_assoc]) (by simp only[map_append];exact dT _ _)
 ·exact N _ _ (Or.inl (Or.inr ⟨rfl,by rw[D];simp[U.idss,U.flats]⟩))
def f271 (u:U) (E:u.fit) (I:u.label.length<1000000000000000000) (F:u.head.length<1000000) (J:u.words.length<1000000):Pure G Tryz.prog 271 [.agg u.cs] (.bool (gI u)):=by
 refine Pure.w c271 λR D=>?_;unfold s271 r271;(repeat' (first|(with_reducible (first|refine ae (λh=>?_) λh=>?_|refine af (λh=>?_) λh=>?_)<;>(try simp only[DZ]at h))|(with_reducible first|refine ab (f337 G _ F) ?_|refine ab (f337 G _ J) ?_|refine ab (f79 G _ I) ?_)|simp only[EV,seval]));(all_goals(first|(refine RET.eq D ?_;(refine congrArg AV.bool (Bool.eq_iff_iff.2 ?_);simp only[gI,EVB]at*;omega))|(refine RET.eq D ?_;((simp_all[gI];done)))))
def zId:Idd:=⟨0,0,0⟩
def gZ (u:U):Bool:=(u.ids.all λx=>decide (x=zId))||(decide (decide (u.id=zId)=decide (u.kind=0))&&decide u.ids.Nodup)
def am (x y:Idd):(decide (x.act=y.act)&&(decide (x.item=y.item)&&(decide (x.n=y.n)&&true)))=decide (x=y):=by rw[oc,Bool.and_true]
def dm (x:Idd):(decide (x.act=0)&&(decide (x.item=0)&&(decide (x.n=0)&&true)))=decide (x=zId):=am x zId
def f176 (u:U) (ht:u.Tame):Pure G Tryz.prog 176 [.agg u.cs] (.bool (gZ u)):=by
 refine Pure.w c176 λR J=>?_;unfold s176 r176
 have hl:u.ids.length<1000000:=by rw[rZ];exact ht.2
 have h0:u.ids=u.id::U.idss u.kids:=rb u;obtain⟨l,N⟩:∃l,u.ids=l:=⟨_,rfl⟩;have hA:=f53 G u ht;unfold gZ at J;rw[N]at J hA hl
 have ad:0<l.length:=by rw[←N,h0];simp
 have M:(l.map Idd.cs).getD 0 []=[.i u.id.act,.i u.id.item,.i u.id.n]:=by rw[←N,h0];rfl
 (repeat' (first|(with_reducible (first|refine ae (λh=>?_) λh=>?_|refine af (λh=>?_) λh=>?_)<;>(try simp only[DZ]at h))|(with_reducible first|refine AI (by omega) ?_|refine ab hA ?_)|simp only[EV,seval,M,dm,am,E.yes,E.le0,E.lt',E.get,E.row,X]|simp only[EV,seval,M,dm,am,Y]|simp only[EV,seval,M,dm,am]|(refine ap (ι:=Bool) (l) (λi r c=>(l.all λx=>decide (x=zId))=(c&&r.all λx=>decide (x=zId))) (λi c=>[(1,.ref u.cs),(3,.lst 3 (l.map Idd.cs)),(4,.bool c),(5,.i i)]) (λ_ _=>[]) (true) (by rfl) (dT _ _) (by omega) (λi x r c D E X=>?_) (λc D Y=>?_))|(refine ak E _ ?_ (dT _ _))))
 ·rw[D,h];simp
 ·rw[D,h];simp
 ·exact RET.eq J (by rw[D,h];simp)
 ·refine RET.eq J ?_;rw[D];simp only[all_nil,Bool.and_true];rename_i V;rw[V]
  have:¬(decide (u.id=zId)=decide (u.kind=0)):=by simpa using h
  simp[this]
 ·rename_i V
  have I:(l.all λx=>decide (x=zId))=false:=by rw[D,V];rfl
  have T:(decide (u.id=zId)=decide (u.kind=0)):=by simpa using h
  rw[I,Bool.false_or,decide_eq_true T,Bool.true_and]at J;clear D h V I T;(repeat' (first|(with_reducible (refine ae (λh=>?_) λh=>?_)<;>(try simp only[DZ]at h))|simp only[EV,seval,am,O.yes,O.le0,O.lt',O.row,ac,E.le0,E.lt',E.row]|simp only[EV,seval,am,aa,E.le0,E.lt',E.row,X]|simp only[EV,seval,am,E.yes,E.le0,E.lt',E.get,E.row,X]|simp only[EV,seval,am,Y]|(refine ak E () ?_ (dT _ _))|(refine ap (l) (λi r (c:Unit)=>(l.take i).Nodup) (λi c=>[(3,.lst 3 (l.map Idd.cs)),(6,.i i)]) (λ_ _=>[]) () (by((simp;done))) (dT _ _) (by omega) (λi x r c D E X=>?_) (λc D Y=>?_))|(refine lX (l) (i) (Nat.le_of_lt E.lt) (λk (c:Unit)=>¬x∈l.take k) (λk c=>[(3,.lst 3 (l.map Idd.cs)),(6,.i i),(7,.i k)]) (λ_ _=>[]) () (by simp) (dT _ _) (by have:=E.lt;omega) (λk y c F O ac=>?_) (λc F aa=>?_))|(refine jD O () ?_ (dT _ _))))
  ·refine RET.eq J (congrArg AV.bool (Eq.symm (decide_eq_false ?_)));intro Z;subst h;exact rJ E Z O.mem
  ·rw[O.take];simp[F,Ne.symm h]
  ·rw[E.take];exact nodup_append.2 ⟨D,by simp,by intro a ha b hb e;simp only[mem_singleton]at hb;subst hb e;exact F ha⟩
  ·rw[take_length]at D;exact RET.eq J (by rw[decide_eq_true D])
def bY (l:List U):Prop:=(l.map λk=>(k.kind,k.label)).Nodup
instance (l:List U):Decidable (bY l):=inferInstanceAs (Decidable (List.Nodup _))
mutual
def U.right:U->Bool
 |⟨i,k,l,h,w,ks⟩=>gI ⟨i,k,l,h,w,ks⟩&&(U.rights k ks&&decide (bY ks))
def U.rights:Int->List U->Bool
 |_,[]=>true
 |k,u::us=>(nests k u.kind&&U.right u)&&U.rights k us
end
def ue (u:U):u.right=(gI u&&(U.rights u.kind u.kids&&decide (bY u.kids))):=by cases u;rw[U.right]
def U.Short (u:U):Prop:=u.Tame/\∀x∈u.flat,x.label.length<1000000000000000000/\x.head.length<1000000/\x.words.length<1000000/\(∀w∈x.head,w.text.length<1000000000000000000)/\(∀w∈x.words,w.text.length<1000000000000000000)
def sa {u k x:U} (D:k∈u.kids) (E:x∈k.flat):x∈u.flat:=by
 rw[U.flat_eq];refine mem_cons_of_mem _ ?_
 have:∀us:List U,k∈us->x∈U.flats us:=by
  intro us
  induction us with
  |nil=>intro h;cases h
  |cons a us ih=>
   intro h;rw[U.flats]
   rcases mem_cons.1 h with rfl|h
   ·exact mem_append.2 (.inl E)
   ·exact mem_append.2 (.inr (ih h))
 exact this _ D
def U.flat_self (u:U):u∈u.flat:=by rw[U.flat_eq];simp
def U.Short.kid {u k:U} (h:u.Short) (D:k∈u.kids):k.Short:=⟨h.1.kid D,λx E=>h.2 x (sa D E)⟩
def mn {l:List U} {i:Nat} {x y:U} {r:List U} (I:Rest l i x r) (J:y∈l.take i) (E:y.kind=x.kind) (F:y.label=x.label):¬bY l:=by
 intro h;unfold bY at h;have D:((l.take (i+1)).map λk=>(k.kind,k.label)).Nodup:=h.sublist ((take_sublist (i+1) l).map _);rw[I.take,map_append]at D;exact(nodup_append.1 D).2.2 (y.kind,y.label) (mem_map.2 ⟨y,J,rfl⟩) (x.kind,x.label) (by simp) (by rw[E,F])
def jj {l:List U} {i:Nat} {x:U} {r:List U} (I:Rest l i x r) (h:bY (l.take i)) (F:∀y∈l.take i,¬(y.kind=x.kind/\y.label=x.label)):bY (l.take (i+1)):=by
 unfold bY at*;rw[I.take,map_append];refine nodup_append.2 ⟨h,by simp,?_⟩;intro a E b D e;obtain⟨y,J,rfl⟩:=mem_map.1 E
 have D:b=(x.kind,x.label):=by simpa using D
 subst D
 injection e with e1 e2
 exact F y J ⟨e1,e2⟩
def f173:∀(u:U),u.Short->Pure G Tryz.prog 173 [.agg u.cs] (.bool u.right):=by
 refine U.ind λu ih T=>?_;have ad:=T.1.kids;have V:=T.2 u u.flat_self;have N:=T.1.1
 have aa:bY ([]:List U):=by unfold bY;simp
 refine Pure.w c173 λR M=>?_;unfold s173 r173;rw[ue]at M;(repeat' (first|(with_reducible (first|refine ae (λh=>?_) λh=>?_|refine af (λh=>?_) λh=>?_)<;>(try simp only[DZ]at h))|(with_reducible first|refine ab (f271 G u N V.1 V.2.1 V.2.2.1) ?_|refine ab (f101 G _ _) ?_|refine ab (ih x D.mem (T.kid D.mem)) ?_)|simp only[EV,seval,J.yes,J.le0,J.lt',J.row,Z,D.le0,D.lt',D.row]|simp only[EV,seval,Y,D.le0,D.lt',D.row,hw]|simp only[EV,seval,D.yes,D.le0,D.lt',D.get,D.row,hw]|simp only[EV,seval,hn]|simp only[EV,seval]|(with_reducible intro ac E;(try(have O:=E;simp only[EVK]at O;(have ah:=O))))|(refine ak D () ?_ (dT _ _))|(refine ap (u.kids) (λi r (c:Unit)=>U.rights u.kind u.kids=U.rights u.kind r/\bY (u.kids.take i)) (λi c=>[(1,.ref u.cs),(3,.i i)]) (λ_ _=>[]) () (by((simp[*];done))) (dT _ _) (by omega) (λi x r c F D hw=>?_) (λc F hn=>?_))|(refine lX (u.kids) (i) (Nat.le_of_lt D.lt) (λk (c:Unit)=>∀y∈u.kids.take k,¬(y.kind=x.kind/\y.label=x.label)) (λk c=>[(1,.ref u.cs),(3,.i i),(4,.i k)]) (λ_ _=>[]) () (by simp) (dT _ _) (by have:=D.lt;omega) (λk y c I J Z=>?_) (λc I Y=>?_))|(refine jD J () ?_ (dT _ _))))
 ·exact RET.eq M (by rw[h];rfl)
 ·exact RET.eq M (by rw[F.1,U.rights,h,Bool.and_false];simp)
 ·exact RET.eq M (by rw[decide_eq_false (mn D J.mem (by assumption) h)];simp)
 ·rw[J.take]at E
  rcases mem_append.1 E with hb|hb
  ·exact I _ hb
  ·simp only[mem_singleton]at hb;subst hb;exact λe=>h e.2
 ·rw[J.take]at E
  rcases mem_append.1 E with hb|hb
  ·exact I _ hb
  ·simp only[mem_singleton]at hb;subst hb;exact λe=>h e.1
 ·rename_i X;exact⟨by rw[F.1,U.rights,X,h];rfl,jj D F.2 I⟩
 ·exact RET.eq M (by rw[F.1,U.rights,h];simp)
 ·rw[take_length]at F;exact RET.eq M (by rw[F.1,h,U.rights,decide_eq_true F.2];rfl)
def fM (u:U):Bool:=u.right&&(decide (u.dep<=8)&&(decide (u.cnt<=1024)&&gZ u))
def f106 (u:U) (F:u.Short):Pure G Tryz.prog 106 [.agg u.cs] (.bool (fM u)):=by
 have D:=F.1;refine Pure.w c106 λR E=>?_;unfold s106 r106;(repeat' (first|(with_reducible (refine af (λh=>?_) λh=>?_)<;>(try simp only[DZ]at h))|(with_reducible first|refine ab (f173 G u F) ?_|refine ab (f174 G u D) ?_|refine ab (f175 G u D) ?_|refine ab (f176 G u D) ?_)|simp only[EV,seval]));(all_goals(first|(refine RET.eq E ?_;(refine congrArg AV.bool (Bool.eq_iff_iff.2 ?_);simp only[fM,EVB]at*;omega))|(refine RET.eq E ?_;((simp_all[fM];done)))))
end
section
def Wd.bare (w:Wd):Wd:=⟨w.text,0,0,0⟩
mutual
def U.strip:U->U
 |⟨_,k,l,h,w,ks⟩=>⟨⟨0,0,0⟩,k,l,h.map Wd.bare,w.map Wd.bare,U.strips ks⟩
def U.strips:List U->List U
 |[]=>[]
 |u::us=>U.strip u::U.strips us
end
def tt:∀us:List U,U.strips us=us.map U.strip
 |[]=>rfl
 |u::us=>by rw[U.strips,tt us];rfl
def rV (u:U):u.strip=⟨⟨0,0,0⟩,u.kind,u.label,u.head.map Wd.bare,u.words.map Wd.bare,u.kids.map U.strip⟩:=by cases u;rw[U.strip,tt]
def eM {e:TypeId} {sz bytes n m m':Nat} {τ:Store} (κ:Store) {g:Option Nat} {rows:List (List AV)} {cs:List AV} {K:List (List AV)->AV->Store->Prop} {b k1:Nat} (Y:τ=κ++tokS g e m) (M:∀d,g=some d->d∉κ.keys) (hr:rows.length=n) (hm:m=n*sz)
  (X:m'=(n+1)*sz) (hl:cs.length=sz) (O:b∉τ.keys) (E:(n+1)*bytes<=140737488355328) (hk:∀D,(∀d,D=some d->d∉κ.keys)->K [cs] (.own D e sz (rows++[cs])) (κ++tokS D e m')):
  ∃J:List (List AV),J.length=1/\(∀r∈J,r.length=sz)/\J.flatten=cs/\appX e sz bytes ((b,.tok e k1)::τ) g rows J (K J):=by
 subst hm X hr Y
 have T:b∉κ.keys:=λh=>O (by rw[aC];exact mem_append.2 (.inl h))
 refine⟨[cs],rfl,by simpa using hl,by simp,gj κ (λd hd=>?_) (by simpa using E) ?_ (λD V=>by simpa using hk D V)⟩
 ·subst hd
  have h1:¬b=d:=by rintro rfl;exact O (by rw[aC];exact mem_append.2 (.inr (by simp[tokS,Store.keys])))
  simp only[Store.get,if_neg h1];have Z:=M d rfl;clear O T hk M
  induction κ with
  |nil=>simp[tokS,Store.get]
  |cons p κ ih=>
   obtain⟨c,y⟩:=p
   have h3:¬c=d:=by rintro rfl;exact Z (by simp[Store.keys])
   simp only[cons_append,Store.get,if_neg h3];exact ih (λh=>Z (by simp only[Store.keys,map_cons,mem_cons]at h ⊢;exact .inr h))
 ·refine⟨λp N=>?_,λE=>?_⟩
  ·have F:p∈((b,AObj.tok e k1)::(κ++tokS g e (rows.length*sz))):=mem_cons_of_mem _ (mem_append.2 (.inl N))
   cases g with
   |none=>exact F
   |some d=>
    refine mem_filter.2 ⟨F,?_⟩;have:p.1≠d:=λe=>M d rfl (e ▸ mem_map.2 ⟨p,N,rfl⟩);simpa using this
  ·have h4:(Store.keys ((b,AObj.tok e k1)::(κ++tokS g e (rows.length*sz)))).Nodup\/True:=.inr trivial;have key:∀(σ:Store),κ.keys.Sublist σ.keys->σ.keys.Nodup->κ.keys.Nodup:=λσ h E=>E.sublist h
   have I:κ.keys.Sublist (Store.erase ((b,AObj.tok e k1)::(κ++tokS g e (rows.length*sz))) g).keys:=by
    cases g with
    |none=>simp only[Store.erase,Store.keys,tokS,append_nil,map_cons];exact sublist_cons_self _ _
    |some d=>
     have hf:(κ.filter λp=>p.1≠d)=κ:=filter_eq_self.2 λp N=>by
      have:p.1≠d:=λe=>M d rfl (e ▸ mem_map.2 ⟨p,N,rfl⟩);simpa using this
     simp only[Store.erase,Store.keys];refine List.Sublist.map _ ?_;rw[filter_cons,filter_append,hf];split
     ·exact(sublist_append_left _ _).trans (sublist_cons_self _ _)
     ·exact sublist_append_left _ _
   exact key _ I E
section
variable (G:Glob)
def f260 (l:List Wd) (X:l.length<1000000):Pure G Tryz.prog 260 [.lst 4 (l.map Wd.cs)] (.lst 4 ((l.map Wd.bare).map Wd.cs)):=by
 refine Pure.w c260 λR N=>?_;unfold s260 r260;(repeat' (first|simp only[EV,seval,D.yes,D.le0,D.lt',D.get,D.row,V]|simp only[EV,seval,O]|simp only[EV,seval]|(with_reducible intro I E;(try(have F:=E;simp only[EVK]at F;(have T:=F))))|(refine⟨[],rfl,(by simp),rfl,?_⟩)|(refine ap (ι:=Option Nat) (l) (λi r c=>True) (λi c=>[(0,.lst 4 (l.map Wd.cs)),(3,.own c 118 4 ((l.take i).map (λw=>[AV.str w.text,.i 0,.i 0,.i 0]))),(4,.i i)]) (λi c=>tokS c 118 (i*4)) (some I) (by trivial) (dT _ _) (by omega) (λi x r c J D V=>?_) (λc J O=>?_))|(refine aZ (n:=i) (m':=(i+1)*4) (by exact aS) (by simp;have:=D.lt;omega) (by rfl) (by rfl) rfl (by assumption) (by have:=D.lt;omega) (λM=>?_))|(refine ak D M ?_ (by simp only[D.take,map_append,map_cons,map_nil];exact dT _ _))));(all_goals(((refine N _ _ (Or.inl (Or.inr ⟨rfl,?_⟩));simp[wd_cs,Wd.bare,Function.comp_def];done))))
set_option maxHeartbeats 4000000 in
def f139:∀(u:U),u.Short->Pure G Tryz.prog 139 [.agg u.cs] (.agg u.strip.cs):=by
 refine U.ind λu ih V=>?_;have ac:=V.1.kids;have X:=V.2 u u.flat_self;refine Pure.w c139 λR hR=>?_;unfold s139 r139;(repeat' (first|(with_reducible first|refine ab (f260 G _ X.2.1) ?_|refine ab (f260 G _ X.2.2.1) ?_)|simp only[EV,seval,D]|simp only[EV,seval]|(with_reducible intro J F;(try(have E:=F;simp only[EVK]at E;first|(have D:=AI E D)|(have D:=E))))|(with_reducible first|refine ag ?_ ?_|refine ai ?_)))
 all_goals
  rename_i N aa _ _
  obtain⟨O,Z⟩:∃b,b=J:=⟨_,rfl⟩
  subst Z
  (repeat' (first|(with_reducible refine ab (ih x I.mem (V.kid I.mem)) ?_)|simp only[EV,seval,I.yes,I.le0,I.lt',I.get,I.row,hw,D]|simp only[EV,seval,hn,D]|(with_reducible intro J F;(try(have E:=F;simp only[EVK]at E;(have D:=AI E D))))|(with_reducible first|refine ag ?_ ?_|refine ai ?_)|(refine ap (ι:=Option Nat) u.kids (λi r c=>∀d,c=some d->d∉Store.keys [(O,AObj.cells 27 []),(N,AObj.cells 27 [])]) (λi c=>[(1,.ref u.cs),(2,.p N),(3,.p O),(4,.i i)]) (λi c=>(O,.cells 27 [.i 0,.i 0,.i 0,.i u.kind,.str u.label,.lst 4 ((u.head.map Wd.bare).map Wd.cs),.lst 4 ((u.words.map Wd.bare).map Wd.cs),.own c 27 8 ((u.kids.take i).map λk=>k.strip.cs)])::(N,.cells 27 zU)::tokS c 27 (i*8)) none (by simp) (Weak.st (by simp[StLe,aW,aH,zU,tokS])) (by omega) (λi x r c M I hw=>?_) (λc M hn=>?_))|(refine eM (n:=i) (m':=(i+1)*8) [_,_] (by rfl) (by simpa[Store.keys]using M) (by simp;have:=I.lt;omega) rfl rfl (ra _) (by assumption) (by have:=I.lt;omega) (λY T=>?_))|(refine ak I Y (by simpa[Store.keys]using T) (by simp only[I.take,map_append,map_cons,map_nil];exact dT _ _))))
  (all_goals(((refine hR _ _ (Or.inr ?_);simp[*,aW,aH,eH,hH,rV,hH];done))))
end
end
section
def gu (u:U):Bool:=fM u&&decide (u=u.strip)
def cD (u:U):Bool:=
 if u.kind=0 then decide (u.label=[])&&(decide ((u.head.length:Int)=0)&&decide ((u.words.length:Int)=0))
 else decide (0<u.kind)&&(decide (u.kind<=7)&&(bK u.label&&(ba u.head&&ba u.words)))
mutual
def U.shape:Int->U->Bool
 |d,⟨i,k,l,h,w,ks⟩=>((decide (d<=8)&& !(decide (0<d)&&decide (k=0)))&&(cD ⟨i,k,l,h,w,ks⟩&&decide ((ks.length:Int)<=64)))&&(U.shapes (d+1) k ks&&decide (bY ks))
def U.shapes:Int->Int->List U->Bool
 |_,_,[]=>true
 |d,k,u::us=>(nests k u.kind&&U.shape d u)&&U.shapes d k us
end
def uf (u:U) (d:Int):u.shape d=(((decide (d<=8)&& !(decide (0<d)&&decide (u.kind=0)))&&(cD u&&decide ((u.kids.length:Int)<=64)))&&(U.shapes (d+1) u.kind u.kids&&decide (bY u.kids))):=by cases u;rw[U.shape]
def dC (u:U):Bool:=u.shape 0&&decide (u.cnt<=1024)
section
variable (G:Glob)
def f77 (u:U) (E:u.Short):Pure G Tryz.prog 77 [.agg u.cs] (.bool (gu u)):=by
 refine Pure.w c77 λR F=>?_;unfold s77 r77;have D:=E.1.1;(repeat' (first|(with_reducible (refine af (λh=>?_) λh=>?_)<;>(try simp only[DZ]at h))|(with_reducible first|refine ab (f106 G u E) ?_|refine ab (f139 G u E) ?_|refine ab (f35 G u D _) ?_)|simp only[EV,seval]));(all_goals(((refine RET.eq F ?_;((simp_all[gu];done))))))
def f326 (u:U) (J:u.label.length<1000000000000000000) (I:u.head.length<1000000) (M:u.words.length<1000000) (D:∀w∈u.head,w.text.length<1000000000000000000) (E:∀w∈u.words,w.text.length<1000000000000000000):Pure G Tryz.prog 326 [.agg u.cs] (.bool (cD u)):=by
 refine Pure.w c326 λR F=>?_;unfold s326 r326;(repeat' (first|(with_reducible (first|refine ae (λh=>?_) λh=>?_|refine af (λh=>?_) λh=>?_)<;>(try simp only[DZ]at h))|(with_reducible first|refine ab (f360 G _ I D) ?_|refine ab (f360 G _ M E) ?_|refine ab (f79 G _ J) ?_)|simp only[EV,seval]));(all_goals(((refine RET.eq F ?_;first|(simp_all[cD];done)|(simp_all[cD];omega)))))
def f258:∀(u:U) (d:Int),u.Short->0<=d->d<=1000000->Pure G Tryz.prog 258 [.agg u.cs,.i d] (.bool (u.shape d)):=by
 refine U.ind λu ih d Z ad ah=>?_;have al:=Z.1.kids;have T:=Z.2 u u.flat_self
 have ac:bY ([]:List U):=by unfold bY;simp
 have J:IntKind.i64.wrap (d+1)=d+1:=av (by omega) (by omega);refine Pure.w c258 λR M=>?_;unfold s258 r258;rw[uf]at M;(repeat' (first|(with_reducible (first|refine ae (λh=>?_) λh=>?_|refine af (λh=>?_) λh=>?_)<;>(try simp only[DZ]at h))|(with_reducible first|refine ab (f326 G u T.1 T.2.1 T.2.2.1 T.2.2.2.1 T.2.2.2.2) ?_|refine ab (f143 G _ _) ?_|refine ab (ih x E.mem (d+1) (Z.kid E.mem) (by omega) (by omega)) ?_)|simp only[EV,seval,J,N.yes,N.le0,N.lt',N.row,aa,E.le0,E.lt',E.row]|simp only[EV,seval,J,Y,E.le0,E.lt',E.row,hw]|simp only[EV,seval,J,E.yes,E.le0,E.lt',E.get,E.row,hw]|simp only[EV,seval,J,hn]|simp only[EV,seval,J]|(with_reducible intro O F;(try(have V:=F;simp only[EVK]at V;(have an:=V))))|(refine ak E () ?_ (Weak.sub (SubN.nil _)))|(refine ap (u.kids) (λi r (c:Unit)=>U.shapes (d+1) u.kind u.kids=U.shapes (d+1) u.kind r/\bY (u.kids.take i)) (λi c=>[(1,.i d),(2,.ref u.cs),(5,.i i)]) (λ_ _=>[]) () (by((simp[*];done))) (dT _ _) (by omega) (λi x r c D E hw=>?_) (λc D hn=>?_))|(refine lX (u.kids) (i) (Nat.le_of_lt E.lt) (λk (c:Unit)=>∀y∈u.kids.take k,¬(y.kind=x.kind/\y.label=x.label)) (λk c=>[(1,.i d),(2,.ref u.cs),(5,.i i),(6,.p O),(7,.i k)]) (λ_ _=>[(O,.cells 27 x.cs)]) () (by simp) (dT _ _) (by have:=E.lt;omega) (λk y c I N aa=>?_) (λc I Y=>?_))|(refine jD N () ?_ (dT _ _))))
 all_goals first
  |exact RET.eq M (by rw[D.1,U.shapes,h,Bool.and_false];simp)
  |exact RET.eq M (by rw[decide_eq_false (mn E N.mem (by assumption) h)];simp)
  |(rw[N.take]at F
    rcases mem_append.1 F with hb|hb
    ·exact I _ hb
    ·simp only[mem_singleton]at hb;subst hb;first|exact λe=>h e.2|exact λe=>h e.1)
  |(rename_i X;exact⟨by rw[D.1,U.shapes,X,h];rfl,jj E D.2 I⟩)
  |exact RET.eq M (by rw[D.1,U.shapes,h];simp)
  |(rw[take_length]at D;exact RET.eq M (by simp[D.1,U.shapes,decide_eq_true D.2, *]))
  |(refine RET.eq M ?_;simp[*];done)
  |(refine RET.eq M ?_;simp[*];intros;omega)
  |exact RET.eq M (by simp[*,D.1,D.2,U.shapes];omega)
def f137 (u:U) (D:u.Short):Pure G Tryz.prog 137 [.agg u.cs] (.bool (dC u)):=by
 have F:=D.1;refine Pure.w c137 λR E=>?_;unfold s137 r137;(repeat' (first|(with_reducible (refine af (λh=>?_) λh=>?_)<;>(try simp only[DZ]at h))|(with_reducible first|refine ab (f258 G u 0 D (by omega) (by omega)) ?_|refine ab (f145 G u F) ?_)|simp only[EV,seval]));(all_goals(((refine RET.eq E ?_;((simp_all[dC];done))))))
end
end
end Go.Av
