/-
  THE DATA: units, words, addresses, items, as plain Lean and as abstract cells.
-/
import Derived.Test.YtppjieiiibgagaaGreatDoorProg
import Derived.Test.YtppjieiiibgagaaGreatDoorQXAv23toXAv25
set_option linter.all false
namespace Go.Av
open Go Go.RowKit List
structure Idd where
 act:Int
 item:Int
 n:Int
 deriving DecidableEq,Inhabited
structure Wd where
 text:List UInt8
 act:Int
 item:Int
 at_:Int
 deriving DecidableEq,Inhabited
structure Stp where
 kind:Int
 label:List UInt8
 deriving DecidableEq,Inhabited
structure Sta where
 kind:Int
 day:Int
 event:List UInt8
 deriving DecidableEq,Inhabited
structure U where
 id:Idd
 kind:Int
 label:List UInt8
 head:List Wd
 words:List Wd
 kids:List U
 deriving Inhabited
structure Itm where
 kind:Int
 at_:List Stp
 to_:List Stp
 wh:Int
 nth:Int
 unit:U
 old:List (List UInt8)
 new:List (List UInt8)
 label:List UInt8
 for_:List UInt8
 start:Sta
 act:Int
 item:Int
 day:Int
 event:List UInt8
 by_:List Itm
 deriving Inhabited
structure Fnd where
 at_:Int
 id:Idd
 why:Int
 text:List UInt8
 deriving DecidableEq,Inhabited
def zU:List AV:=[.i 0,.i 0,.i 0,.i 0,.str [],.nil,.nil,.nil]
def zItm:List AV:=[.i 0,.nil,.nil,.i 0,.i 0,.i 0,.i 0,.i 0,.i 0,.str [],.nil,.nil,.nil,.nil,.nil,.str [],.str [],.i 0,.i 0,.str [],.i 0,.i 0,.i 0,.str [],.nil]
def srow (s:List UInt8):List AV:=[.str s]
def Wd.cs (w:Wd):List AV:=[.str w.text,.i w.act,.i w.item,.i w.at_]
def Stp.cs (s:Stp):List AV:=[.i s.kind,.str s.label]
def Idd.cs (i:Idd):List AV:=[.i i.act,.i i.item,.i i.n]
def Fnd.cs (f:Fnd):List AV:=[.i f.at_,.i f.id.act,.i f.id.item,.i f.id.n,.i f.why,.str f.text]
mutual
def U.cs:U->List AV
 |⟨i,k,l,h,w,ks⟩=>[.int .i64 i.act,.int .i64 i.item,.int .i64 i.n,.int .i64 k,.str l,.lst 4 (h.map Wd.cs),.lst 4 (w.map Wd.cs),.lst 8 (U.css ks)]
def U.css:List U->List (List AV)
 |[]=>[]
 |u::us=>U.cs u::U.css us
end
def uo:∀us:List U,U.css us=us.map U.cs
 |[]=>rfl
 |u::us=>by rw[U.css,uo us];rfl
def hH (u:U):U.cs u=[.i u.id.act,.i u.id.item,.i u.id.n,.i u.kind,.str u.label,.lst 4 (u.head.map Wd.cs),.lst 4 (u.words.map Wd.cs),.lst 8 (u.kids.map U.cs)]:=by
 cases u
 simp only[U.cs,uo]
mutual
def Itm.cs:Itm->List AV
 |⟨k,a,t,wh,n,u,o,w,l,f,s,ac,it,d,e,b⟩=>[.int .i64 k,.lst 2 (a.map Stp.cs),.lst 2 (t.map Stp.cs),.int .i64 wh,.int .i64 n,.int .i64 u.id.act,.int .i64 u.id.item,.int .i64 u.id.n,.int .i64 u.kind,.str u.label,.lst 4 (u.head.map Wd.cs),.lst 4 (u.words.map Wd.cs),.lst 8 (u.kids.map U.cs),
   .lst 1 (o.map srow),.lst 1 (w.map srow),.str l,.str f,.i s.kind,.i s.day,.str s.event,.i ac,.i it,.i d,.str e,.lst 25 (Itm.css b)]
def Itm.css:List Itm->List (List AV)
 |[]=>[]
 |u::us=>Itm.cs u::Itm.css us
end
def tW:∀us:List Itm,Itm.css us=us.map Itm.cs
 |[]=>rfl
 |u::us=>by rw[Itm.css,tW us];rfl
def eH (x:Itm):Itm.cs x=[.i x.kind,.lst 2 (x.at_.map Stp.cs),.lst 2 (x.to_.map Stp.cs),.i x.wh,.i x.nth,.i x.unit.id.act,.i x.unit.id.item,.i x.unit.id.n,.i x.unit.kind,.str x.unit.label,.lst 4 (x.unit.head.map Wd.cs),.lst 4 (x.unit.words.map Wd.cs),.lst 8 (x.unit.kids.map U.cs),
   .lst 1 (x.old.map srow),.lst 1 (x.new.map srow),.str x.label,.str x.for_,.i x.start.kind,.i x.start.day,.str x.start.event,.i x.act,.i x.item,.i x.day,.str x.event,.lst 25 (x.by_.map Itm.cs)]:=by
 cases x
 simp only[Itm.cs,tW]
def ra (u:U):u.cs.length=8:=by rw[hH];rfl
def sE (u:Itm):u.cs.length=25:=by rw[eH];rfl
/-! ### trees -/
def uH {u k:U} (h:k∈u.kids):SizeOf.sizeOf k<SizeOf.sizeOf u:=by
 have:=sizeOf_lt_of_mem h
 cases u
 simp at*;omega
def U.ind {p:U->Prop} (h:∀u,(∀k∈u.kids,p k)->p u) (u:U):p u:=by
 have:∀n (u:U),SizeOf.sizeOf u<n->p u:=by
  intro n
  induction n with
  |zero=>intro u E;omega
  |succ n ih=>exact λu E=>h u λk D=>ih k (by have:=uH D;omega)
 exact this _ u (Nat.lt_succ_self _)
def uy {u k:Itm} (h:k∈u.by_):SizeOf.sizeOf k<SizeOf.sizeOf u:=by
 have:=sizeOf_lt_of_mem h
 cases u
 simp at*;omega
def Itm.ind {p:Itm->Prop} (h:∀u,(∀k∈u.by_,p k)->p u) (u:Itm):p u:=by
 have:∀n (u:Itm),SizeOf.sizeOf u<n->p u:=by
  intro n
  induction n with
  |zero=>intro u E;omega
  |succ n ih=>exact λu E=>h u λk D=>ih k (by have:=uy D;omega)
 exact this _ u (Nat.lt_succ_self _)
mutual
def U.flat:U->List U
 |⟨i,k,l,h,w,ks⟩=>⟨i,k,l,h,w,ks⟩::U.flats ks
def U.flats:List U->List U
 |[]=>[]
 |u::us=>U.flat u++U.flats us
end
def U.flat_eq (u:U):u.flat=u::U.flats u.kids:=by cases u;rw[U.flat]
mutual
def U.deep:U->Nat
 |⟨_,_,_,_,_,ks⟩=>U.deeps ks
def U.deeps:List U->Nat
 |[]=>0
 |u::us=>max (1+U.deep u) (U.deeps us)
end
def sf (u:U):u.deep=U.deeps u.kids:=by cases u;rw[U.deep]
mutual
def U.beq:U->U->Bool
 |⟨i,k,l,h,w,ks⟩,⟨i',k',l',h',w',ks'⟩=>decide (i=i')&&(decide (k=k')&&(decide (l=l')&&(decide (h=h')&&(decide (w=w')&&U.beqs ks ks'))))
def U.beqs:List U->List U->Bool
 |[],[]=>true
 |u::us,v::vs=>U.beq u v&&U.beqs us vs
 |_,_=>false
end
def um {us:List U}:(∀k∈us,∀v,U.beq k v=true↔k=v)->∀vs,U.beqs us vs=true↔us=vs:=by
 induction us with
 |nil=>intro _ vs;cases vs<;>simp[U.beqs]
 |cons u us ih=>
  intro h vs
  cases vs with
  |nil=>simp[U.beqs]
  |cons v vs=>rw[U.beqs,Bool.and_eq_true,h u (by simp),ih (λk D=>h k (by simp[D]))];simp
def tF:∀u v:U,U.beq u v=true↔u=v:=by
 refine U.ind λu ih v=>?_
 cases u;cases v
 simp only[U.beq,Bool.and_eq_true,decide_eq_true_eq,U.mk.injEq];rw[um ih]
instance:DecidableEq U:=λu v=>if h:U.beq u v=true then isTrue ((tF u v).1 h)else isFalse λe=>h ((tF u v).2 e)
mutual
def Itm.beq:Itm->Itm->Bool
 |⟨k,a,t,wh,n,u,o,w,l,f,s,ac,it,d,e,b⟩,⟨k',a',t',wh',n',u',o',w',l',f',s',ac',it',d',e',b'⟩=>
  decide (k=k')&&(decide (a=a')&&(decide (t=t')&&(decide (wh=wh')&&(decide (n=n')&&(U.beq u u'&&(decide (o=o')&&(decide (w=w')&&(decide (l=l')&&(decide (f=f')&&(decide (s=s')&&
  (decide (ac=ac')&&(decide (it=it')&&(decide (d=d')&&(decide (e=e')&&Itm.beqs b b'))))))))))))))
def Itm.beqs:List Itm->List Itm->Bool
 |[],[]=>true
 |u::us,v::vs=>Itm.beq u v&&Itm.beqs us vs
 |_,_=>false
end
def tZ {us:List Itm}:(∀k∈us,∀v,Itm.beq k v=true↔k=v)->∀vs,Itm.beqs us vs=true↔us=vs:=by
 induction us with
 |nil=>intro _ vs;cases vs<;>simp[Itm.beqs]
 |cons u us ih=>
  intro h vs
  cases vs with
  |nil=>simp[Itm.beqs]
  |cons v vs=>rw[Itm.beqs,Bool.and_eq_true,h u (by simp),ih (λk D=>h k (by simp[D]))];simp
def tX:∀u v:Itm,Itm.beq u v=true↔u=v:=by
 refine Itm.ind λu ih v=>?_
 cases u;cases v
 simp only[Itm.beq,Bool.and_eq_true,decide_eq_true_eq,Itm.mk.injEq];rw[tZ ih,tF]
instance:DecidableEq Itm:=λu v=>if h:Itm.beq u v=true then isTrue ((tX u v).1 h)else isFalse λe=>h ((tX u v).2 e)
/-! ### loops over a list: what is left from i on -/
def pV {α:Type} {l:List α} {i:Nat} (h:l.drop i=[]) (hi:i<=l.length):i=l.length:=by
 have:=congrArg List.length h;simp at this;omega
structure Rest {α:Type} (l:List α) (i:Nat) (x:α) (r:List α):Prop where
 lt:i<l.length
 lt':(i:Int)<(l.length:Int)
 yes:decide ((i:Int)<(l.length:Int))=true
 le0:(0:Int)<=(i:Int)
 next:l.drop (i+1)=r
 get:∀d,l.getD i d=x
 row:∀{β:Type} (f:α->β) (d:β),(l.map f).getD i d=f x
 mem:x∈l
 le:i+1<=l.length
 step:l.length-(i+1)<l.length-i
 take:l.take (i+1)=l.take i++[x]
def iR {α:Type} {l:List α} {i:Nat} {x:α} {r:List α} (h:l.drop i=x::r):Rest l i x r:=by
 have hi:i<l.length:=by
  have:=congrArg List.length h;simp at this;omega
 have e:l.drop i=l[i]::l.drop (i+1):=drop_eq_getElem_cons hi;rw[e]at h
 injection h with h1 h2
 refine⟨hi,by omega,by simpa using hi,by omega,h2,λd=>by simp[hi,h1],λf d=>by simp[hi,h1],h1 ▸ getElem_mem hi,hi,by omega,by rw[take_succ_eq_append_getElem hi,h1]⟩
def fF {i:Nat} (h:i<9223372036854775807):IntKind.i64.wrap ((i:Int)+1)=((i+1:Nat):Int):=by
 have:=IntWalk.i64_in ((i:Int)+1) ⟨by omega,by omega⟩;rw[show((i+1:Nat):Int)=(i:Int)+1 from by omega];exact this
/-! ### rules for cells -/
def uQ (u:U) (n:Nat):u.cs.drop (n+1)=[AV.int .i64 u.id.item,.i u.id.n,.i u.kind,.str u.label,.lst 4 (u.head.map Wd.cs),.lst 4 (u.words.map Wd.cs),.lst 8 (u.kids.map U.cs)].drop n:=by rw[hH];rfl
def uR (u:U):u.cs.take 8=u.cs:=by rw[hH];rfl
def tf (u:U):u.cs.take 3=[AV.int .i64 u.id.act,.i u.id.item,.i u.id.n]:=by rw[hH];rfl
def tG (u:U) (d:AV):u.cs.headD d= .i u.id.act:=by rw[hH];rfl
def uz (x:Itm) (n:Nat):x.cs.drop (n+1)=[AV.lst 2 (x.at_.map Stp.cs),.lst 2 (x.to_.map Stp.cs),.i x.wh,.i x.nth,.i x.unit.id.act,.i x.unit.id.item,.i x.unit.id.n,.i x.unit.kind,.str x.unit.label,.lst 4 (x.unit.head.map Wd.cs),.lst 4 (x.unit.words.map Wd.cs),.lst 8 (x.unit.kids.map U.cs),
   .lst 1 (x.old.map srow),.lst 1 (x.new.map srow),.str x.label,.str x.for_,.i x.start.kind,.i x.start.day,.str x.start.event,.i x.act,.i x.item,.i x.day,.str x.event,.lst 25 (x.by_.map Itm.cs)].drop n:=by rw[eH];rfl
def uA (u:Itm):u.cs.take 25=u.cs:=by rw[eH];rfl
def uB (u:Itm) (d:AV):u.cs.headD d= .i u.kind:=by rw[eH];rfl
def pt (u:U):[AV.int .i64 u.id.act,.i u.id.item,.i u.id.n,.i u.kind,.str u.label,.lst 4 (u.head.map Wd.cs),.lst 4 (u.words.map Wd.cs),.lst 8 (u.kids.map U.cs)]=u.cs:=(hH u).symm
def wd_cs (w:Wd):w.cs=[.str w.text,.i w.act,.i w.item,.i w.at_]:=(rfl)
def stp_cs (s:Stp):s.cs=[.i s.kind,.str s.label]:=(rfl)
def idd_cs (i:Idd):i.cs=[.i i.act,.i i.item,.i i.n]:=(rfl)
def ko (f:Fnd):f.cs=[.i f.at_,.i f.id.act,.i f.id.item,.i f.id.n,.i f.why,.str f.text]:=(rfl)
def kX (s:List UInt8):srow s=[.str s]:=(rfl)
def zU_eq:zU=[.i 0,.i 0,.i 0,.i 0,.str [],.nil,.nil,.nil]:=(rfl)
def zItm_eq:zItm=[.i 0,.nil,.nil,.i 0,.i 0,.i 0,.i 0,.i 0,.i 0,.str [],.nil,.nil,.nil,.nil,.nil,.str [],.str [],.i 0,.i 0,.str [],.i 0,.i 0,.i 0,.str [],.nil]:=(rfl)
def EV7:=AI (AI (AI ra sE) (AI uQ uz)) (AI (AI (AI uR (AI tf tG)) (AI uA uB)) (AI (AI (AI wd_cs stp_cs) (AI idd_cs ko)) (AI (AI kX (AI zU_eq zItm_eq)) (AI (AI @List.length_map.{0,0} @Int.toNat_natCast) @List.append_nil.{0}))))
/-! ### walks: either order; a loop over a list -/
def ag {G:Glob} {P:Program} {a b:DT} {env:Env} {σ:Store} {K:Env->Store->Prop} {t:Tag K} (D:TR G P a env σ K ⟨⟩) (E:TR G P b env σ K ⟨⟩):TR G P (.both a b) env σ K t:=⟨D,E⟩
def ai {G:Glob} {env:Env} {σ:Store} {K:Env->Store->Prop} (h:K env σ):∃D σ',Weak G env σ D σ'/\K D σ':=⟨env,σ,dT _ _,h⟩
def LK {α ι:Type} (G:Glob) (l:List α) (ok:Nat->List α->ι->Prop) (st:Nat->ι->Env) (D:Nat->ι->Store) (i:Nat):Env->Store->Prop:=
 λenv σ=>∃j:Nat×List α×ι,(l.drop j.1=j.2.1/\j.1<=l.length/\ok j.1 j.2.1 j.2.2)/\l.length-j.1<l.length-i/\Weak G env σ (st j.1 j.2.2) (D j.1 j.2.2)
def ak {α ι:Type} {G:Glob} {l:List α} {ok:Nat->List α->ι->Prop} {st:Nat->ι->Env} {E:Nat->ι->Store} {i:Nat} {x:α} {r:List α} {env:Env} {σ:Store} (D:Rest l i x r) (c:ι) (h:ok (i+1) r c)
  (F:Weak G env σ (st (i+1) c) (E (i+1) c)):LK G l ok st E i env σ:=⟨(i+1,r,c),⟨D.next,D.le,h⟩,D.step,F⟩
def ap {α ι:Type} {G:Glob} {P:Program} {a:SCode} {Q:Exit->Env->Store->Prop} {V:Tag Q} {env:Env} {σ:Store} (l:List α) (ok:Nat->List α->ι->Prop) (st:Nat->ι->Env) (D:Nat->ι->Store) (c0:ι)
  (O:ok 0 l c0) (T:Weak G env σ (st 0 c0) (D 0 c0)) (X:l.length<9000000000000000000)
  (E:∀i x r c,ok i (x::r) c->Rest l i x r->IntKind.i64.wrap ((i:Int)+1)=((i+1:Nat):Int)->W G P a (NR (LK G l ok st D i) Q ⟨⟩ ⟨⟩) (st i c) (D i c) ⟨⟩)
  (F:∀c,ok l.length [] c->decide ((l.length:Int)<(l.length:Int))=false->W G P a (NR (LK G l ok st D l.length) Q ⟨⟩ ⟨⟩) (st l.length c) (D l.length c) ⟨⟩):W G P (.loop a) Q env σ V:=by
 refine gS (ι:=Nat×List α×ι) (λj=>l.drop j.1=j.2.1/\j.1<=l.length/\ok j.1 j.2.1 j.2.2) (λj=>l.length-j.1) (λj=>st j.1 j.2.2) (λj=>D j.1 j.2.2) (0,l,c0) ⟨rfl,Nat.zero_le _,O⟩ T ?_
 rintro⟨i,r,c⟩ ⟨I,M,J⟩
 simp only at I M J ⊢
 cases r with
 |nil=>
  obtain rfl:=pV I M;exact F c J (by simp)
 |cons x r=>
  have N:=iR I;exact E i x r c J N (fF (by have:=N.lt;omega))
def keys_cons {k:Nat} {x:AObj} {σ:Store}:Store.keys ((k,x)::σ)=k::σ.keys:=rfl
def keys_nil:Store.keys []=[]:=rfl
def EVC:=(AI (AI (AI @List.all_cons.{0} (AI @List.all_nil.{0} @List.any_cons.{0})) (AI (AI @List.any_nil.{0} @Bool.not_false) (AI @Bool.not_true @Bool.false_and))) (AI (AI @Bool.and_false (AI @Bool.true_and @Bool.and_true)) (AI (AI @Bool.false_or @Bool.or_false) (AI @Bool.true_or @Bool.or_true))))
def EVB:=(AI (AI (AI (AI @Bool.and_eq_false_iff @Bool.or_eq_false_iff) (AI @beq_eq_false_iff_ne.{0} (AI @Bool.not_true @Bool.not_false))) (AI (AI @Bool.and_eq_true (AI @Bool.or_eq_true @decide_eq_true_eq)) (AI @decide_eq_false_iff_not (AI @beq_iff_eq.{0} @bne_iff_ne.{0})))) (AI (AI (AI @ne_eq.{1} @Bool.not_eq_true') (AI @Bool.not_eq_true (AI @Bool.not_eq_false @Bool.false_eq_true))) (AI (AI @Bool.true_eq_false (AI @false_iff @iff_false)) (AI @true_iff (AI @iff_true @Bool.not_eq_eq_eq_not)))))
def EVK:=(AI (AI (AI @keys_cons @keys_nil) (AI @List.mem_cons.{0} @List.not_mem_nil.{0})) (AI (AI @not_or @or_false) (AI @not_false_eq_true (AI @and_true @true_and))))
def EVz:=(AI (AI (AI EV1 EV2) (AI EV3 EV4)) (AI EV5 (AI @eq_self.{1} (AI @Option.map_some.{0,0} (AI @decide_true @decide_false)))))
def EV:=And.intro EVz EV7
end Go.Av
namespace Go.Av
open Go List
abbrev qa (d:Nat) (x:SOp):SOper:=⟨some d,none,x⟩
abbrev qb (d g:Nat) (x:SOp):SOper:=⟨some d,some (g,true),x⟩
abbrev qc (d g:Nat) (x:SOp):SOper:=⟨some d,some (g,false),x⟩
abbrev qi (n:Int):SOpd:=.c (.i n)
abbrev qt:SOpd:=.c (.bool true)
abbrev qf:SOpd:=.c (.bool false)
abbrev qs (a b:SCode):SCode:=.seq a b
abbrev ql (x:SOpd):SOp:=.load false 1 x
abbrev mt (a:Nat):SOp:=.mov (.t a)
abbrev fa (a b:Nat):SOp:=.fieldA a (.t b)
abbrev lo (a:Nat):SOp:=ql (.t a)
abbrev lm (a b:Nat):SOp:=.load true a (.t b)
abbrev qr (a:List SOper) (b:List Nat):SCode:=.region a b
abbrev RL:=List (Nat×Option (Bool×Nat))
abbrev Qm (d:Nat) (a:Nat):SOper:=qa d (mt a)
abbrev Bm (d k:Nat) (a:Nat):SOper:=qb d k (mt a)
abbrev Ym (d k:Nat) (a:Nat):SOper:=qc d k (mt a)
abbrev Qo (d:Nat) (a:Nat):SOper:=qa d (lo a)
abbrev Qa (d:Nat) (a:Nat) (b:Nat):SOper:=qa d (fa a b)
abbrev Ql (d:Nat) (a:Nat) (b:Nat):SOper:=qa d (lm a b)
abbrev Qe (d:Nat) (a:Nat) (b:Nat):SOper:=qa d (.extract a (.t b))
abbrev Qb (d:Nat) (a:Nat) (b:Nat):SOper:=qa d (.boxR a (.t b))
abbrev QB (d:Nat) (a:Nat) (b:Nat) (c:Nat):SOper:=qa d (.box a b (.t c))
abbrev Qi (d:Nat) (m:Int):SOper:=qa d (.mov (qi m))
abbrev Qf (d:Nat):SOper:=qa d (.mov qf)
abbrev Qt (d:Nat):SOper:=qa d (.mov qt)
abbrev Qz (d:Nat):SOper:=qa d (.mov (.c .nil))
abbrev Qp (d:Nat) (a:Nat) (b:Nat):SOper:=qa d (.pick (.t a) (.t b) qf)
abbrev Qq (d:Nat) (a:Nat) (b:Nat):SOper:=qa d (.pick (.t a) qt (.t b))
abbrev Qn (d:Nat) (a:Nat):SOper:=qa d (.len (.t a))
abbrev QN (d:Nat) (a:Nat):SOper:=qa d (.lenS (.t a))
abbrev Qx (d:Nat) (a:Nat) (b:Nat) (c:Nat):SOper:=qa d (.indexA a (.t b) (.t c))
abbrev QU (d:Nat) (a:Nat):SOper:=qa d (.alloc a zU)
abbrev Qw (d:Nat) (a:Nat) (b:Nat) (c:Nat) (e:Nat) (f:Nat):SOper:=qa d (.append a b c (.t e) (.t f))
abbrev Qc (d:Nat) (a:Nat):SOper:=qa d (.nilCheck (.t a))
abbrev Qr (d:Nat) (a:Nat):SOper:=qa d (.not (.t a))
abbrev Qs (d:Nat) (a:Nat) (b:Nat):SOper:=qa d (.loadF true a (.t b))
abbrev Q0 (d:Nat) (a:Nat):SOper:=qa d (.call (.f a) [])
abbrev Q1 (d:Nat) (a:Nat) (b:Nat):SOper:=qa d (.call (.f a) [.t b])
abbrev Q2 (d:Nat) (a:Nat) (b:Nat) (c:Nat):SOper:=qa d (.call (.f a) [.t b,.t c])
abbrev Q3 (d:Nat) (a:Nat) (b:Nat) (c:Nat) (e:Nat):SOper:=qa d (.call (.f a) [.t b,.t c,.t e])
abbrev Q4 (d:Nat) (a:Nat) (b:Nat) (c:Nat) (e:Nat) (f:Nat):SOper:=qa d (.call (.f a) [.t b,.t c,.t e,.t f])
abbrev Q5 (d:Nat) (a:Nat) (b:Nat) (c:Nat) (e:Nat) (f:Nat) (g:Nat):SOper:=qa d (.call (.f a) [.t b,.t c,.t e,.t f,.t g])
abbrev Q6 (d:Nat) (a:Nat) (b:Nat) (c:Nat) (e:Nat) (f:Nat) (g:Nat) (h:Nat):SOper:=qa d (.call (.f a) [.t b,.t c,.t e,.t f,.t g,.t h])
abbrev Qu (d:Nat) (o:BinOp) (a:Nat) (m:Int):SOper:=qa d (.bin o (.t a) (qi m))
abbrev Qv (d:Nat) (o:BinOp) (a:Nat) (b:Nat):SOper:=qa d (.bin o (.t a) (.t b))
abbrev QA (d:Nat):SOper:=qa d (.build zU [])
abbrev QI (d:Nat) (a:Nat) (b:Nat):SOper:=qa d (.index (.t a) (.t b))
abbrev QS (a b c:Nat):SOper:=⟨none,none,.store a (.t b) (.t c)⟩
abbrev qR (a:List SOper) (b:List Nat) (c:SCode):SCode:=qs (qr a b) c
abbrev qX (a:Nat):SCode:=.cond (.t a) .skip (.exit 0)
abbrev qL (a:SCode):SCode:=.block 0 (.loop a)
noncomputable abbrev FB (k:Nat) (l:List Nat):=fnAt Proofs.Tryz.prog k l
end Go.Av
