/-
  UNDO, plain law 4: the patch of an item takes it back.
-/
import Derived.Test.YtppjieiiibgagaaGreatDoorWXM21toXU3
import Derived.Lib.ItoaLen
import Derived.Test.YtppjieiiibgagaaGreatDoorWXM9toXOpE
import Derived.Test.YtppjieiiibgagaaGreatDoorWXDattoXCS
import Derived.Test.YtppjieiiibgagaaGreatDoorWXC4
import Derived.Test.YtppjieiiibgagaaGreatDoorWXC5
import Derived.Test.YtppjieiiibgagaaGreatDoorWXC6
import Derived.Test.YtppjieiiibgagaaGreatDoorWXM2toXM5
import Derived.Test.YtppjieiiibgagaaGreatDoorWXAv30toXAv33
set_option linter.all false
namespace Go.Av
open Go Go.RowKit Go.Proofs List
structure Pt where
 kind:Int
 at_:Int
 id:Idd
 parent:Idd
 unit:U
 label:List UInt8
 words:List Wd
def zPt:Pt:=⟨0,0,zId,zId,noU,[],[]⟩
def mkPt (u:U) (d:Dd) (i:Idd):Pt:=
 if d.it.kind=0 then ⟨0,0,⟨d.act,d.item,1⟩,zId,noU,[],[]⟩
 else if d.it.kind=1 then ⟨1,(parR i u).2.2,i,(parR i u).1.id,fnd i u,[],[]⟩
 else if d.it.kind=2\/d.it.kind=3 then ⟨4,0,i,zId,noU,[],(fnd i u).words⟩
 else if d.it.kind=4 then ⟨5,0,i,zId,noU,[],(fnd i u).head⟩
 else if d.it.kind=5 then ⟨3,0,i,zId,noU,(fnd i u).label,[]⟩
 else ⟨2,(parR i u).2.2,i,(parR i u).1.id,noU,[],[]⟩
def invP (u:U) (d:Dd):Pt×Int:=if (doP u d).2≠0 then (zPt,(doP u d).2)else (mkPt u d (one u d.it.at_).1,0)
def revP (v:U) (p:Pt):U×Int:=
 if p.kind=0 then remT v p.id
 else if p.kind=1 then insT v p.parent p.at_ p.unit
 else if p.kind=2 then movT v p.id p.parent p.at_
 else if p.kind=3 then relT v p.id p.label
 else if p.kind=4 then wrT v p.id p.words (λy=>{y with words:=p.words})
 else if p.kind=5 then wrT v p.id p.words (λy=>{y with head:=p.words})
 else (noU,1)
def goes_in {u:U} (h:Good u) {i t:Idd} (hi:i∈u.ids) (E:u.id≠i) (X:t∈u.ids) {wh:Int} (h0:0<=wh) (h3:wh<=3) {q:Idd} {k:Nat} (e:eu u i t wh=some (q,k)):q∈(without i u).ids:=by
 obtain⟨g1,g2,g3,A,B,hA,Y,Z⟩:=dy h hi E;obtain⟨own,dO,j,w1,w2,O⟩:=aU h.nd hi E;obtain⟨a,x,b,s,hx,hj,hl⟩:=O.split;have M:fnd i u=x:=aB hl
 have F:q∈u.ids/\q∉(fnd i u).ids:=by
  unfold eu at e;rw[w1]at e;simp only at e;split at e
  ·cases e
  ·rename_i V;rw[not_or]at V;split at e
   ·injection e with e;injection e with e3 e4
    subst e3;refine⟨O.mem,?_⟩;rw[M];have:=(rB O.nd).2;rw[s.eq,pt,eH]at this;exact λD=>this (mem_append.2 (.inr (mem_append.2 (.inl D))))
   ·rename_i T;obtain⟨⟨q',k'⟩,I,e6⟩:=Option.map_eq_some_iff.1 e
    injection e6 with e7 e8
    subst e7
    have hr:¬(besides wh=true/\t=u.id):=by
     rintro⟨r1,r2⟩
     have J:wh=2\/wh=3:=by simpa[besides]using r1
     unfold spot at I;rw[bT r2.symm]at I
     rcases J with J|J<;>simp[J]at I
    obtain⟨P,dp,k2,N⟩:=g7 h.nd X h0 h3 hr;have:=N.spot;rw[I]at this
    injection this with this
    injection this with e9 e10
    simp only at e9 ⊢;rw[e9];refine⟨N.mem,N.out i hi λD=>?_⟩;exact V.1 ((fL u h.nd X hi).2 ⟨T,D⟩)
 rw[Z];have:=F.1;rw[Y]at this
 rcases mem_append.1 this with D|D
 ·exact mem_append.2 (.inl D)
 ·rcases mem_append.1 D with D|D
  ·exact absurd D F.2
  ·exact mem_append.2 (.inr D)
def undo_ins {u:U} (h:Good u) (O:u.kind=0) {d:Dd} (T:d.it.kind=0) (E:(doP u d).2=0) (ha:1<=d.act):remT (doP u d).1 ⟨d.act,d.item,1⟩=(u,0):=by
 obtain⟨F,D⟩:=iB h d;have e:=E;unfold doP at E F D ⊢;split at E
 ·cases E
 rename_i c1;rw[if_neg c1]at F D ⊢
 have Z:d.it.may=true:=by cases h:d.it.may<;>simp_all
 split at E
 ·rename_i c2;exact absurd E c2
 rename_i c2;rw[if_neg c2]at F D ⊢;have hi:=bH (u:=u) (p:=d.it.at_) (by simpa using c2);rw[if_pos T]at F D ⊢;obtain⟨s1,s2,s3,s4,s5⟩:=il d.it.unit d.act d.item (jO Z T)
 have I:(ba d.it.unit d.act d.item).id=⟨d.act,d.item,1⟩:=by
  have:=s1;rw[o5]at this;have hp:=d.it.unit.flat_pos
  cases Y:d.it.unit.flat.length with
  |zero=>omega
  |succ n=>
   rw[Y]at this;simp only[idRow,range_succ_eq_map,map_cons]at this
   injection this with t1 _
 unfold insP at E F D ⊢
 rcases J:spot u (one u d.it.at_).1 d.it.wh with _|⟨q,k⟩
 ·simp only[J]at E;cases E
 ·simp only[J]at E F D ⊢;split at E
  ·rename_i c;exact absurd E c
  rename_i c3;rw[if_neg c3]at F D ⊢;split at E
  ·cases E
  rename_i c4;rw[if_neg c4]at F D ⊢;split at E
  ·cases E
  rename_i c5;rw[if_neg c5]at F D ⊢;simp only at F D ⊢;have hq:=jL h.nd hi J;obtain⟨V,p2,X⟩:=pe h.nd hq F.nd;rw[I]at V p2 X;have N:=D.kind.trans O
  have M:(U.wth q (λy=>{y with kids:=aH y.kids k (ba d.it.unit d.act d.item)}) u).id≠⟨d.act,d.item,1⟩:=by
   rw[D.id,h.root.1 O];intro e
   injection e with e _ _
   omega
  unfold remT;rw[if_neg (by rw[jP F N];simp),if_neg (by simp[X]),if_neg M,V]
def pf {u:U} (D:u.ids.Nodup) {i:Idd} (hi:i∈u.ids) {f g:U->U} (E:∀y,(f y).id=y.id) (F:g (f (fnd i u))=fnd i u):U.wth i g (U.wth i f u)=u:=by
 rw[kF (f:=f) (g:=g) u D hi (λy I=>by rw[E];exact I)];exact jl (f:=λy=>g (f y)) u D hi F
def row_words {l:List Wd} (h:aX l=true):l.length<=256/\(l.any λw=>!bJ w.text)=false:=by
 unfold aX at h;simp only[Bool.and_eq_true,decide_eq_true_eq,all_eq_true]at h;refine⟨by omega,?_⟩;rw[any_eq_false];intro w D e;have:=h.2 w D;unfold wdOk at this;rw[this]at e;exact absurd e (by decide)
def undo_wr {u:U} (h:Good u) (I:u.kind=0) {i:Idd} (hi:i∈u.ids) (F:u.id≠i) {f g:U->U} {l:List Wd} (D:∀y,(f y).id=y.id) (E:∀y,(f y).kind=y.kind)
  (J:g (f (fnd i u))=fnd i u) (V:Good (U.wth i f u)) (T:Root u (U.wth i f u)) (N:aX l=true):wrT (U.wth i f u) i l g=(u,0):=by
 obtain⟨Y,X⟩:=row_words N
 have O:i∈(U.wth i f u).ids:=kR h.nd hi D
 have M:=(ge h I hi F).2
 unfold wrT
 rw[if_neg (by rw[jP V (T.kind.trans I),X];simp),if_neg (by simp[O]),if_neg (by rw[kD u h.nd hi D,E];exact M),if_neg (by omega),pf h.nd hi D J]
def par_map {u v:U} {i:Idd} {g:U->U} (I:U.way i v=(U.way i u).map g) {own:U} {d j:Nat} (w:aL i u=some (own,d,j)):∃J,aL i v=some (g own,d,J):=by
 unfold aL at w ⊢;rw[I,←map_reverse]
 cases D:(U.way i u).reverse with
 |nil=>rw[D]at w;cases w
 |cons a l=>
  cases l with
  |nil=>rw[D]at w;cases w
  |cons b r=>
   rw[D]at w;simp only[Option.some.injEq,Prod.mk.injEq]at w;obtain⟨E,F,_⟩:=w;subst E;simp only[map_cons,length_map,F];exact⟨_,rfl⟩
def undo_rel {u:U} (h:Good u) (h0:u.kind=0) {i:Idd} (hi:i∈u.ids) (Y:u.id≠i) {s:List UInt8} (hs:bW (parR i u).1.kids (fnd i u).kind s=false)
  (hv:Good (U.wth i (λy=>{y with label:=s}) u)) (hr:Root u (U.wth i (λy=>{y with label:=s}) u)):relT (U.wth i (λy=>{y with label:=s}) u) i (fnd i u).label=(u,0):=by
 obtain⟨own,d,j,w1,w2,hp⟩:=aU h.nd hi Y
 rw[w2]at hs
 simp only at hs
 have hm:i∈(U.wth i (λy=>{y with label:=s}) u).ids:=kR h.nd hi (λ_=>rfl)
 have hk:=(ge h h0 hi Y).2
 have J:fnd i (U.wth i (λy=>{y with label:=s}) u)={fnd i u with label:=s}:=kD u h.nd hi (λ_=>rfl)
 have T:=(gq (h.node _ (aJ u h.nd hi)) hk).1
 obtain⟨a,x,b,sp,hx,hj,hl⟩:=hp.split
 have E:fnd i u=x:=aB hl
 have V:x∈own.kids:=by rw[sp.eq];simp
 have M:(fnd i u).label≠s:=by
  intro e;unfold bW at hs;rw[any_eq_false]at hs;exact hs x V (by rw[E,←e,E];simp)
 have Z:own∈u.flat:=by
  have:=aJ u h.nd hp.mem;rw[hp.fnd]at this;exact this
 have ac:oe (U.wth i (λy=>{y with label:=s}) u) i (fnd i u).label=false:=by
  have hw:U.way i (U.wth i (λy=>{y with label:=s}) u)=(U.way i u).map (U.wth i λy=>{y with label:=s}):=kL (j:=i) (t:=i) (f:=λy=>{y with label:=s}) u h.nd (λy D e=>⟨rfl,rfl⟩);obtain⟨j',e⟩:=par_map hw w1;unfold oe;rw[e];simp only;rw[J]
  have aa:own.id≠i:=by
   intro O;have X:=(rB hp.nd).2;rw[O]at X;exact X (by rw[sp.eq,pt,eH,←hx];exact mem_append.2 (.inr (mem_append.2 (.inl (cS x)))))
  rw[Split.wth aa sp];simp only;rw[aZ hx];have N:=h.node own Z;unfold nodeOk at N;simp only[Bool.and_eq_true,decide_eq_true_eq]at N;obtain⟨_,⟨_,I⟩,_⟩:=N;unfold bM at I;rw[sp.eq,map_append,map_cons,nodup_append]at I;obtain⟨n1,n2,n3⟩:=I;unfold bW;rw[any_eq_false,E];rw[E]at M;intro y D O;simp only[Bool.and_eq_true,decide_eq_true_eq]at O
  have F:(y.kind,y.label)=(x.kind,x.label):=by rw[O.1,O.2]
  rcases mem_append.1 D with D|D
  ·exact n3 _ (mem_map.2 ⟨y,D,rfl⟩) _ (by simp) F
  ·rcases mem_cons.1 D with D|D
   ·subst D;exact M O.2.symm
   ·rw[nodup_cons]at n2;exact n2.1 (F ▸ mem_map.2 ⟨y,D,rfl⟩)
 unfold relT
 rw[if_neg (by rw[jP hv (hr.kind.trans h0),T];simp),if_neg (by simp[hm]),if_neg (by rw[J];exact hk),if_neg (by rw[J,ac];simp only;rintro(e|e);exact M e.symm;cases e)]
 rw[pf (f:=λy=>{y with label:=s}) (g:=λy=>{y with label:=(fnd i u).label}) h.nd hi (λ_=>rfl) (by cases fnd i u;rfl)]
def rf {t:Idd} {l:List U} {k:Nat} {x:U}:t∈U.idss (aH l k x)↔t∈U.idss l\/t∈x.ids:=by
 have e:aH l k x=l.take k++x::l.drop k:=rfl
 have D:U.idss l=U.idss (l.take k)++U.idss (l.drop k):=by rw[←pt,take_append_drop]
 rw[e,D,pt,eH];simp only[mem_append];constructor
 ·rintro(h|h|h)
  ·exact .inl (.inl h)
  ·exact .inr h
  ·exact .inl (.inr h)
 ·rintro((h|h)|h)
  ·exact .inl h
  ·exact .inr (.inr h)
  ·exact .inr (.inl h)
def ins_mem {r:U} (I:r.ids.Nodup) {q:Idd} (J:q∈r.ids) {k:Nat} {x:U} {t:Idd} (D:t∈r.ids):t∈(U.wth q (λy=>{y with kids:=aH y.kids k x}) r).ids:=by
 obtain⟨l,M,E,F⟩:=iw (f:=λy=>{y with kids:=aH y.kids k x}) r I J;rw[E]at D;rw[F]
 rcases mem_append.1 D with h|h
 ·exact mem_append.2 (.inl h)
 rcases mem_append.1 h with h|h
 ·refine mem_append.2 (.inr (mem_append.2 (.inl ?_)));rw[o5]at h ⊢;simp only[mem_cons]at h ⊢
  rcases h with h|h
  ·exact .inl h
  ·exact .inr (rf.2 (.inl h))
 ·exact mem_append.2 (.inr (mem_append.2 (.inr h)))
def ways_ins {t:Idd} {l:List U} {k:Nat} {x:U} (h:t∉x.ids):U.ways t (aH l k x)=U.ways t l:=by
 have e:aH l k x=l.take k++x::l.drop k:=rfl;rw[e,←pT h,take_append_drop]
def oa {r:U} (J:r.ids.Nodup) {q:Idd} (T:q∈r.ids) {k:Nat} {x:U} {t:Idd} (M:t∈r.ids) (O:t∉x.ids):(fnd t (U.wth q (λy=>{y with kids:=aH y.kids k x}) r)).kind=(fnd t r).kind:=by
 have N:U.way t (U.wth q (λy=>{y with kids:=aH y.kids k x}) r)=(U.way t r).map (U.wth q λy=>{y with kids:=aH y.kids k x}):=
  kL (j:=q) (t:=t) (f:=λy=>{y with kids:=aH y.kids k x}) r J (λy D e=>⟨rfl,ways_ins O⟩)
 obtain⟨y,D⟩:∃y,(U.way t r).getLast?=some y:=by
  cases E:(U.way t r).getLast? with
  |some y=>exact⟨y,rfl⟩
  |none=>
   rw[getLast?_eq_none_iff]at E;exact absurd M ((cE r).1 E)
 have F:fnd t r=y:=aB D
 have I:fnd t (U.wth q (λy=>{y with kids:=aH y.kids k x}) r)=U.wth q (λy=>{y with kids:=aH y.kids k x}) y:=by
  refine aB ?_;rw[N,getLast?_map,D];rfl
 rw[F,I];exact dg (f:=λy=>{y with kids:=aH y.kids k x}) U.kind (λ_=>rfl) (λ_ _=>rfl) y
/-! ### the reference -/
def iU {n:Int} (D:0<=n) (E:n<10):Lib.itoa n=[UInt8.ofNat (48+n.toNat)]:=by
 unfold Lib.itoa;rw[if_neg (by omega),Lib.decDigits_one (by omega)]
/-! ### the texts of patches -/
def idTx (i:Idd):List UInt8:=Lib.itoa i.act++(46::(Lib.itoa i.item++(46::Lib.itoa i.n)))
def allU:U->List Dd->U×List Pt
 |u,[]=>(u,[])
 |u,d::l=>if chg d.it.kind=false\/(invP u d).2≠0 then allU u l else ((allU (doP u d).1 l).1,(invP u d).1::(allU (doP u d).1 l).2)
def allU_nil (u:U):allU u []=(u,[]):=rfl
def nc (u:U) (d:Dd) (l:List Dd):allU u (d::l)=if chg d.it.kind=false\/(invP u d).2≠0 then allU u l else ((allU (doP u d).1 l).1,(invP u d).1::(allU (doP u d).1 l).2):=rfl
def inv_err (u:U) (d:Dd):(invP u d).2=(doP u d).2:=by
 unfold invP;split
 ·rfl
 ·rename_i c;simp only[ne_eq,Classical.not_not]at c;rw[c]
def kd:∀{l:List Dd} {u:U},Good u->u.kind=0->Good (allU u l).1/\(allU u l).1.kind=0
 |[],u,h,h0=>⟨h,h0⟩
 |d::l,u,h,h0=>by
  rw[nc];split
  ·exact kd h h0
  ·obtain⟨D,E⟩:=iB h d;exact kd (u:=(doP u d).1) D (E.kind.trans h0)
def Pt.cs (p:Pt):List AV:=[.i p.kind,.i p.at_,.i p.id.act,.i p.id.item,.i p.id.n,.i p.parent.act,.i p.parent.item,.i p.parent.n,.i p.unit.id.act,.i p.unit.id.item,.i p.unit.id.n,.i p.unit.kind,.str p.unit.label,.lst 4 (p.unit.head.map Wd.cs),.lst 4 (p.unit.words.map Wd.cs),.lst 8 (p.unit.kids.map U.cs),.str p.label,.lst 4 (p.words.map Wd.cs)]
def ti (p:Pt):p.cs.length=18:=rfl
def saidP (l:List Wd):List UInt8:=(l.map λw=>32::w.text).flatten
def fromP (p:Pt):List UInt8:=idTx p.id++([32,102,114,111,109,32]++(idTx p.parent++([32,97,116,32]++Lib.itoa p.at_)))
def fmtP (p:Pt):List UInt8:=
 if p.kind=0 then [105,110,115,101,114,116,101,100,32]++idTx p.id
 else if p.kind=1 then [114,101,109,111,118,101,100,32]++fromP p
 else if p.kind=2 then [109,111,118,101,100,32]++fromP p
 else if p.kind=3 then [108,97,98,101,108,32]++(idTx p.id++([32,119,97,115,32]++p.label))
 else if p.kind=4 then [119,111,114,100,115,32]++(idTx p.id++([32,119,101,114,101]++saidP p.words))
 else if p.kind=5 then [104,101,97,100,105,110,103,32]++(idTx p.id++([32,119,97,115]++saidP p.words))
 else []
def fmt_zero:fmtP zPt=[105,110,115,101,114,116,101,100,32,48,46,48,46,48]:=by
 unfold fmtP zPt;rw[if_pos rfl];unfold idTx zId;rw[iU (by decide) (by decide)];rfl
def fm {G:Glob} {P:Program} {f:Value} {args:List AV} {σ0 σ:Store} {K:AV->Store->Prop} {t:Tag K} {v:AV}
  (h:cu G P f args σ0 λr σ'=>r=v/\σ'=σ0) (E:SubN σ0 σ) (D:K v σ):CALL G P f args σ K t:=
 bl σ [] (h.keepIn E) (hH _) (by rw[append_nil];exact SubN.refl _) (by rintro _ _ ⟨rfl,rfl⟩;rw[append_nil];exact D)
def hasP (i:Idd) (u:U):Bool:=decide (i∈u.ids)
def has_way (i:Idd) (u:U):(U.way i u).isEmpty= !hasP i u:=by
 unfold hasP;by_cases h:i∈u.ids
 ·rw[gw h,decide_eq_true h];rfl
 ·rw[(cE u).2 h,decide_eq_false h];rfl
def ff:List (Value×Bool×Int)->Int
 |[]=>0
 |x::l=>if x.2.1 then x.2.2 else ff l
def ckRow (x:Value×Bool×Int):List AV:=[.sc x.1,.i x.2.2]
section
variable (G:Glob)
def f65p (l:List Wd) (D:l.length<1000000):Pure G Tryz.prog 65 [.lst 4 (l.map Wd.cs)] (.lst 4 (l.map Wd.cs)):=
 ul (R1:=λσ=>σ=[]) (aj.mono (f65 G l D) λr σ' h=>⟨σ',[],h,by simp,rfl⟩)
def f183 (i:Idd) (u:U) (N:u.Short):Pure G Tryz.prog 183 [.agg u.cs,.agg i.cs] (.bool (hasP i u)):=by
 have F:=f27 G i u N;unfold iL at F;rw[has_way]at F;simp only[Idd.cs]at F;refine Pure.w c183 λR I=>?_;unfold s183 r183
 cases h:hasP i u with
 |false=>
  rw[h]at F I;simp only[Bool.not_false,if_true]at F;(repeat' (first|(with_reducible refine ab F ?_)|simp only[EV,seval]|(with_reducible intro J D;(try(have E:=D;simp only[EVK]at E;(have M:=E))))|fail))
  all_goals exact RQ I
 |true=>
  rw[h]at F I;simp only[Bool.not_true,Bool.false_eq_true,if_false]at F;(repeat' (first|(with_reducible refine ab F ?_)|simp only[EV,seval]|(with_reducible intro J D;(try(have E:=D;simp only[EVK]at E;(have M:=E))))|fail))
  all_goals exact RQ I
def f274 (i:Idd):Pure G Tryz.prog 274 [.agg i.cs] (.bool (decide (i=zId))):=by
 refine Pure.w c274 λR D=>?_;unfold s274 r274;(repeat' (simp only[EV,seval,cJ]))
 all_goals exact RQ D
end
section
variable (G:Glob) (hG:GOk G)
include hG
def f181 (u:U) (M:u.Short):Pure G Tryz.prog 181 [.agg u.cs] (.bool (stP u)):=by
 have I:=f211 G u M.1;have F:=f275 G hG u M
 have N:u.ids.length<100000000:=by unfold U.ids;rw[length_map];have:=M.1.2;omega
 have V:1<=u.ids.length:=by rw[o5];simp
 obtain⟨l,D⟩:∃l,(if u.kind=0 then u.ids.drop 1 else u.ids)=l:=⟨_,rfl⟩
 have Y:l.length<100000000:=by rw[←D];split;(rw[length_drop];omega);exact N
 have T:=f212k G [] (.func (.func 274) #[] #[]) (λi=>decide (i=zId)) l (by omega)
   (λy hy=>(f274 G y).v)
 refine Pure.w c181 λR E=>?_;unfold s181 r181;unfold stP at E;rw[D]at E;obtain⟨t,Z⟩:∃t,bS u=t:=⟨_,rfl⟩;rw[Z]at F E;rw[b0 u]at I F ⊢;by_cases O:u.kind=0
 ·rw[if_pos O]at D
  have X:(u.ids.map Idd.cs).drop 1=l.map Idd.cs:=by rw[←D,map_drop]
  have J:List.take u.ids.length (u.ids.map Idd.cs)=u.ids.map Idd.cs:=take_of_length_le (by simp);(repeat' (first|(with_reducible (first|refine ae (λh=>?_) λh=>?_|refine ai (λh=>?_) λh=>?_)<;>(try simp only[DZ]at h))|(with_reducible first|refine AI (by omega) ?_|refine ab I ?_|refine ab F ?_)|simp only[EV,seval,J,X,length_map]|(refine fm T.v (SubN.nil _) ?_)|(exfalso;omega)|fail))
  all_goals exact E _ _ (.inl (.inl (by((simp[*];done)))))
 ·rw[if_neg O]at D;subst D;(repeat' (first|(with_reducible (first|refine ae (λh=>?_) λh=>?_|refine ai (λh=>?_) λh=>?_)<;>(try simp only[DZ]at h))|(with_reducible first|refine AI (by omega) ?_|refine ab I ?_|refine ab F ?_)|simp only[EV,seval]|(refine fm T.v (SubN.nil _) ?_)|(exfalso;omega)|fail))
  all_goals exact E _ _ (.inl (.inl (by((simp[*];done)))))
end
def LeReps.refl:∀xs:List AV,LeReps xs xs
 |[]=>.nil
 |x::xs=>.cons (LeRep.refl x) (LeReps.refl xs)
def LeReps.at {xs ys:List AV} (h:LeReps xs ys):∀{σ:Store} {w:World} {a:Addr} {i:Nat},RepAt σ w a i xs->RepAt σ w a i ys:=by
 induction h with
 |nil=>intro σ w a i h;exact h
 |cons h1 h2 ih=>
  intro σ w a i h;simp only[RepAt]at h ⊢;obtain⟨⟨u,f,o,r⟩,g⟩:=h;exact⟨⟨u,f,o,h1 _ _ _ r⟩,ih g⟩
def LeReps.length {xs ys:List AV} (h:LeReps xs ys):xs.length=ys.length:=by
 induction h with
 |nil=>rfl
 |cons _ _ ih=>rw[length_cons,length_cons,ih]
inductive LeRows:List (List AV)->List (List AV)->Prop
 |nil:LeRows [] []
 |cons {x y xs ys}:LeReps x y->LeRows xs ys->LeRows (x::xs) (y::ys)
def LeRows.refl:∀xs:List (List AV),LeRows xs xs
 |[]=>.nil
 |x::xs=>.cons (LeReps.refl x) (LeRows.refl xs)
def LeRows.length {xs ys:List (List AV)} (h:LeRows xs ys):xs.length=ys.length:=by
 induction h with
 |nil=>rfl
 |cons _ _ ih=>rw[length_cons,length_cons,ih]
def LeRows.rep {xs ys:List (List AV)} (h:LeRows xs ys):∀{σ:Store} {w:World} {a:Addr} {sz i:Nat},az σ w a sz i xs->az σ w a sz i ys:=by
 induction h with
 |nil=>intro σ w a sz i h;exact h
 |cons h1 h2 ih=>
  intro σ w a sz i h;simp only[az]at h ⊢;obtain⟨D,E,F⟩:=h;exact⟨h1.length ▸ D,h1.at E,ih F⟩
def LeRep.own {g:Option Nat} {e:TypeId} {sz:Nat} {xs ys:List (List AV)} (h:LeRows xs ys):LeRep (.own g e sz xs) (.lst sz ys):=λσ w u D=>by
 cases g with
 |none=>
  simp only[Rep]at D ⊢;obtain⟨E,rfl⟩:=D
  cases h;exact .inl ⟨E,rfl⟩
 |some b=>
  simp only[Rep]at D ⊢;obtain⟨cap,E,F,I,_,J⟩:=D;exact .inr ⟨_,cap,by rw[←h.length];exact E,by rw[←h.length];exact F,I,h.rep J⟩
def LeRep.agg {xs ys:List AV} (h:LeReps xs ys):LeRep (.agg xs) (.agg ys):=λσ w u D=>by
 simp only[Rep]at D ⊢;obtain⟨vs,e,o,D⟩:=D;exact⟨vs,e,o,h.rep D⟩
def LeRep.nil {sz:Nat}:LeRep .nil (.lst sz []):=λσ w u D=>by
 simp only[Rep]at D ⊢;exact .inl ⟨D,trivial⟩
def Pure.lr {G:Glob} {P:Program} {k:FuncId} {args D:List AV} {r:AV} (h:Pure G P k D r) (I:LeReps args D):Pure G P k args r:=⟨h.1,λρ w vs F E=>h.2 ρ w vs F (I.rep E)⟩
def W_tail2 {G:Glob} {P:Program} {a b X:SCode} {Q:Exit->Env->Store->Prop} {D:Tag Q} {env:Env} {σ:Store} (h:∀Y,Y=X->W G P (.seq a (.seq b Y)) Q env σ ⟨⟩):W G P (.seq a (.seq b X)) Q env σ D:=h X rfl
section
variable {G:Glob} {P:Program} {env:Env} {σ:Store} {K:Env->Store->Prop} {tK:Tag K}
end
end Go.Av
