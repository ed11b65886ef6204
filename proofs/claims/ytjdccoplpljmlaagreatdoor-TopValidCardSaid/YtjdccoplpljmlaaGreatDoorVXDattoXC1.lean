/-
  THE DATA: units, words, addresses, items, as plain Lean and as abstract cells.
-/
import Derived.Test.YtjdccoplpljmlaaGreatDoorProg
import Derived.Test.YtjdccoplpljmlaaGreatDoorVXAv21toXAv25
import Derived.Test.YtjdccoplpljmlaaGreatDoorVXAv26toXGlob
namespace Go.Av
open Go Go.RowKit List
set_option linter.unusedSimpArgs false
set_option linter.unusedVariables false
structure Idd where
 act:Int
 item:Int
 n:Int
 deriving DecidableEq,Inhabited
structure Wd where
 text:List UInt8
 act:Int
 item:Int
 at_:Int
 deriving DecidableEq,Inhabited
structure Stp where
 kind:Int
 label:List UInt8
 deriving DecidableEq,Inhabited
structure Sta where
 kind:Int
 day:Int
 event:List UInt8
 deriving DecidableEq,Inhabited
structure U where
 id:Idd
 kind:Int
 label:List UInt8
 head:List Wd
 words:List Wd
 kids:List U
 deriving Inhabited
structure Itm where
 kind:Int
 at_:List Stp
 to_:List Stp
 wh:Int
 nth:Int
 unit:U
 old:List (List UInt8)
 new:List (List UInt8)
 label:List UInt8
 for_:List UInt8
 start:Sta
 act:Int
 item:Int
 day:Int
 event:List UInt8
 by_:List Itm
 deriving Inhabited
structure Fnd where
 at_:Int
 id:Idd
 why:Int
 text:List UInt8
 deriving DecidableEq,Inhabited
def zU:List AV:=[.int .i64 0,.int .i64 0,.int .i64 0,.int .i64 0,.str [],.nil,.nil,.nil]
def zItm:List AV:=[.int .i64 0,.nil,.nil,.int .i64 0,.int .i64 0,.int .i64 0,.int .i64 0,.int .i64 0,.int .i64 0,.str [],.nil,.nil,.nil,.nil,.nil,.str [],.str [],.int .i64 0,.int .i64 0,.str [],.int .i64 0,.int .i64 0,.int .i64 0,.str [],.nil]
def srow (s:List UInt8):List AV:=[.str s]
def Wd.cs (w:Wd):List AV:=[.str w.text,.int .i64 w.act,.int .i64 w.item,.int .i64 w.at_]
def Stp.cs (s:Stp):List AV:=[.int .i64 s.kind,.str s.label]
def Idd.cs (i:Idd):List AV:=[.int .i64 i.act,.int .i64 i.item,.int .i64 i.n]
def Fnd.cs (f:Fnd):List AV:=[.int .i64 f.at_,.int .i64 f.id.act,.int .i64 f.id.item,.int .i64 f.id.n,.int .i64 f.why,.str f.text]
mutual
def U.cs:U->List AV
 |⟨i,k,l,h,w,ks⟩=>[.int .i64 i.act,.int .i64 i.item,.int .i64 i.n,.int .i64 k,.str l,.lst 4 (h.map Wd.cs),.lst 4 (w.map Wd.cs),.lst 8 (U.css ks)]
def U.css:List U->List (List AV)
 |[]=>[]
 |u::us=>U.cs u::U.css us
end
theorem U.css_map:∀us:List U,U.css us=us.map U.cs
 |[]=>rfl
 |u::us=>by rw[U.css,U.css_map us];rfl
theorem U.cs_eq (u:U):U.cs u=[.int .i64 u.id.act,.int .i64 u.id.item,.int .i64 u.id.n,.int .i64 u.kind,.str u.label,.lst 4 (u.head.map Wd.cs),.lst 4 (u.words.map Wd.cs),.lst 8 (u.kids.map U.cs)]:=by
 cases u
 simp only[U.cs,U.css_map]
mutual
def Itm.cs:Itm->List AV
 |⟨k,a,t,wh,n,u,o,w,l,f,s,ac,it,d,e,b⟩=>[.int .i64 k,.lst 2 (a.map Stp.cs),.lst 2 (t.map Stp.cs),.int .i64 wh,.int .i64 n,.int .i64 u.id.act,.int .i64 u.id.item,.int .i64 u.id.n,.int .i64 u.kind,.str u.label,.lst 4 (u.head.map Wd.cs),.lst 4 (u.words.map Wd.cs),.lst 8 (u.kids.map U.cs),
   .lst 1 (o.map srow),.lst 1 (w.map srow),.str l,.str f,.int .i64 s.kind,.int .i64 s.day,.str s.event,.int .i64 ac,.int .i64 it,.int .i64 d,.str e,.lst 25 (Itm.css b)]
def Itm.css:List Itm->List (List AV)
 |[]=>[]
 |u::us=>Itm.cs u::Itm.css us
end
theorem Itm.css_map:∀us:List Itm,Itm.css us=us.map Itm.cs
 |[]=>rfl
 |u::us=>by rw[Itm.css,Itm.css_map us];rfl
theorem Itm.cs_eq (x:Itm):Itm.cs x=[.int .i64 x.kind,.lst 2 (x.at_.map Stp.cs),.lst 2 (x.to_.map Stp.cs),.int .i64 x.wh,.int .i64 x.nth,.int .i64 x.unit.id.act,.int .i64 x.unit.id.item,.int .i64 x.unit.id.n,.int .i64 x.unit.kind,.str x.unit.label,.lst 4 (x.unit.head.map Wd.cs),.lst 4 (x.unit.words.map Wd.cs),.lst 8 (x.unit.kids.map U.cs),
   .lst 1 (x.old.map srow),.lst 1 (x.new.map srow),.str x.label,.str x.for_,.int .i64 x.start.kind,.int .i64 x.start.day,.str x.start.event,.int .i64 x.act,.int .i64 x.item,.int .i64 x.day,.str x.event,.lst 25 (x.by_.map Itm.cs)]:=by
 cases x
 simp only[Itm.cs,Itm.css_map]
theorem U.cs_len (u:U):u.cs.length=8:=by rw[U.cs_eq];rfl
theorem Itm.cs_len (u:Itm):u.cs.length=25:=by rw[Itm.cs_eq];rfl
/-! ### trees -/
theorem U.size_kid {u k:U} (h:k∈u.kids):SizeOf.sizeOf k<SizeOf.sizeOf u:=by
 have:=sizeOf_lt_of_mem h
 cases u
 simp at*
 omega
theorem U.ind {p:U->Prop} (h:∀u,(∀k∈u.kids,p k)->p u) (u:U):p u:=by
 have:∀n (u:U),SizeOf.sizeOf u<n->p u:=by
  intro n
  induction n with
  |zero=>intro u hu;omega
  |succ n ih=>exact λu hu=>h u λk hk=>ih k (by have:=U.size_kid hk;omega)
 exact this _ u (Nat.lt_succ_self _)
theorem Itm.size_by {u k:Itm} (h:k∈u.by_):SizeOf.sizeOf k<SizeOf.sizeOf u:=by
 have:=sizeOf_lt_of_mem h
 cases u
 simp at*
 omega
theorem Itm.ind {p:Itm->Prop} (h:∀u,(∀k∈u.by_,p k)->p u) (u:Itm):p u:=by
 have:∀n (u:Itm),SizeOf.sizeOf u<n->p u:=by
  intro n
  induction n with
  |zero=>intro u hu;omega
  |succ n ih=>exact λu hu=>h u λk hk=>ih k (by have:=Itm.size_by hk;omega)
 exact this _ u (Nat.lt_succ_self _)
mutual
def U.flat:U->List U
 |⟨i,k,l,h,w,ks⟩=>⟨i,k,l,h,w,ks⟩::U.flats ks
def U.flats:List U->List U
 |[]=>[]
 |u::us=>U.flat u++U.flats us
end
theorem U.flat_eq (u:U):u.flat=u::U.flats u.kids:=by cases u;rw[U.flat]
mutual
def U.deep:U->Nat
 |⟨_,_,_,_,_,ks⟩=>U.deeps ks
def U.deeps:List U->Nat
 |[]=>0
 |u::us=>max (1+U.deep u) (U.deeps us)
end
theorem U.deep_eq (u:U):u.deep=U.deeps u.kids:=by cases u;rw[U.deep]
mutual
def U.beq:U->U->Bool
 |⟨i,k,l,h,w,ks⟩,⟨i',k',l',h',w',ks'⟩=>decide (i=i')&&(decide (k=k')&&(decide (l=l')&&(decide (h=h')&&(decide (w=w')&&U.beqs ks ks'))))
def U.beqs:List U->List U->Bool
 |[],[]=>true
 |u::us,v::vs=>U.beq u v&&U.beqs us vs
 |_,_=>false
end
theorem U.beqs_iff_of {us:List U}:(∀k∈us,∀v,U.beq k v=true↔k=v)->∀vs,U.beqs us vs=true↔us=vs:=by
 induction us with
 |nil=>intro _ vs;cases vs<;>simp[U.beqs]
 |cons u us ih=>
  intro h vs
  cases vs with
  |nil=>simp[U.beqs]
  |cons v vs=>rw[U.beqs,Bool.and_eq_true,h u (by simp),ih (λk hk=>h k (by simp[hk]))];simp
theorem U.beq_iff:∀u v:U,U.beq u v=true↔u=v:=by
 refine U.ind λu ih v=>?_
 cases u;cases v
 simp only[U.beq,Bool.and_eq_true,decide_eq_true_eq,U.mk.injEq]
 rw[U.beqs_iff_of ih]
instance:DecidableEq U:=λu v=>if h:U.beq u v=true then isTrue ((U.beq_iff u v).1 h)else isFalse λe=>h ((U.beq_iff u v).2 e)
mutual
def Itm.beq:Itm->Itm->Bool
 |⟨k,a,t,wh,n,u,o,w,l,f,s,ac,it,d,e,b⟩,⟨k',a',t',wh',n',u',o',w',l',f',s',ac',it',d',e',b'⟩=>
  decide (k=k')&&(decide (a=a')&&(decide (t=t')&&(decide (wh=wh')&&(decide (n=n')&&(U.beq u u'&&(decide (o=o')&&(decide (w=w')&&(decide (l=l')&&(decide (f=f')&&(decide (s=s')&&
  (decide (ac=ac')&&(decide (it=it')&&(decide (d=d')&&(decide (e=e')&&Itm.beqs b b'))))))))))))))
def Itm.beqs:List Itm->List Itm->Bool
 |[],[]=>true
 |u::us,v::vs=>Itm.beq u v&&Itm.beqs us vs
 |_,_=>false
end
theorem Itm.beqs_iff_of {us:List Itm}:(∀k∈us,∀v,Itm.beq k v=true↔k=v)->∀vs,Itm.beqs us vs=true↔us=vs:=by
 induction us with
 |nil=>intro _ vs;cases vs<;>simp[Itm.beqs]
 |cons u us ih=>
  intro h vs
  cases vs with
  |nil=>simp[Itm.beqs]
  |cons v vs=>rw[Itm.beqs,Bool.and_eq_true,h u (by simp),ih (λk hk=>h k (by simp[hk]))];simp
theorem Itm.beq_iff:∀u v:Itm,Itm.beq u v=true↔u=v:=by
 refine Itm.ind λu ih v=>?_
 cases u;cases v
 simp only[Itm.beq,Bool.and_eq_true,decide_eq_true_eq,Itm.mk.injEq]
 rw[Itm.beqs_iff_of ih,U.beq_iff]
instance:DecidableEq Itm:=λu v=>if h:Itm.beq u v=true then isTrue ((Itm.beq_iff u v).1 h)else isFalse λe=>h ((Itm.beq_iff u v).2 e)
/-! ### loops over a list: what is left from i on -/
theorem nB {α:Type} {l:List α} {i:Nat} (h:l.drop i=[]) (hi:i<=l.length):i=l.length:=by
 have:=congrArg List.length h
 simp at this
 omega
structure Rest {α:Type} (l:List α) (i:Nat) (x:α) (r:List α):Prop where
 lt:i<l.length
 lt':(i:Int)<(l.length:Int)
 yes:decide ((i:Int)<(l.length:Int))=true
 le0:(0:Int)<=(i:Int)
 next:l.drop (i+1)=r
 get:∀d,l.getD i d=x
 row:∀{β:Type} (f:α->β) (d:β),(l.map f).getD i d=f x
 mem:x∈l
 le:i+1<=l.length
 step:l.length-(i+1)<l.length-i
 take:l.take (i+1)=l.take i++[x]
theorem ge {α:Type} {l:List α} {i:Nat} {x:α} {r:List α} (h:l.drop i=x::r):Rest l i x r:=by
 have hi:i<l.length:=by
  have:=congrArg List.length h
  simp at this
  omega
 have e:l.drop i=l[i]::l.drop (i+1):=drop_eq_getElem_cons hi
 rw[e]at h
 injection h with h1 h2
 refine⟨hi,by omega,by simpa using hi,by omega,h2,λd=>by simp[hi,h1],λf d=>by simp[hi,h1],h1 ▸ getElem_mem hi,hi,by omega,by rw[take_succ_eq_append_getElem hi,h1]⟩
theorem jA {i:Nat} (h:i<9223372036854775807):IntKind.i64.wrap ((i:Int)+1)=((i+1:Nat):Int):=by
 have:=IntWalk.i64_in ((i:Int)+1) ⟨by omega,by omega⟩
 rw[show((i+1:Nat):Int)=(i:Int)+1 from by omega]
 exact this
/-! ### rules for cells -/
theorem U.cs_drop (u:U) (n:Nat):u.cs.drop (n+1)=[AV.int .i64 u.id.item,.int .i64 u.id.n,.int .i64 u.kind,.str u.label,.lst 4 (u.head.map Wd.cs),.lst 4 (u.words.map Wd.cs),.lst 8 (u.kids.map U.cs)].drop n:=by rw[U.cs_eq];rfl
theorem U.cs_take (u:U):u.cs.take 8=u.cs:=by rw[U.cs_eq];rfl
theorem U.cs_take3 (u:U):u.cs.take 3=[AV.int .i64 u.id.act,.int .i64 u.id.item,.int .i64 u.id.n]:=by rw[U.cs_eq];rfl
theorem U.cs_head (u:U) (d:AV):u.cs.headD d= .int .i64 u.id.act:=by rw[U.cs_eq];rfl
theorem Itm.cs_drop (x:Itm) (n:Nat):x.cs.drop (n+1)=[AV.lst 2 (x.at_.map Stp.cs),.lst 2 (x.to_.map Stp.cs),.int .i64 x.wh,.int .i64 x.nth,.int .i64 x.unit.id.act,.int .i64 x.unit.id.item,.int .i64 x.unit.id.n,.int .i64 x.unit.kind,.str x.unit.label,.lst 4 (x.unit.head.map Wd.cs),.lst 4 (x.unit.words.map Wd.cs),.lst 8 (x.unit.kids.map U.cs),
   .lst 1 (x.old.map srow),.lst 1 (x.new.map srow),.str x.label,.str x.for_,.int .i64 x.start.kind,.int .i64 x.start.day,.str x.start.event,.int .i64 x.act,.int .i64 x.item,.int .i64 x.day,.str x.event,.lst 25 (x.by_.map Itm.cs)].drop n:=by rw[Itm.cs_eq];rfl
theorem Itm.cs_take (u:Itm):u.cs.take 25=u.cs:=by rw[Itm.cs_eq];rfl
theorem Itm.cs_head (u:Itm) (d:AV):u.cs.headD d= .int .i64 u.kind:=by rw[Itm.cs_eq];rfl
theorem U.cs_fold (u:U):[AV.int .i64 u.id.act,.int .i64 u.id.item,.int .i64 u.id.n,.int .i64 u.kind,.str u.label,.lst 4 (u.head.map Wd.cs),.lst 4 (u.words.map Wd.cs),.lst 8 (u.kids.map U.cs)]=u.cs:=(U.cs_eq u).symm
theorem wd_cs (w:Wd):w.cs=[.str w.text,.int .i64 w.act,.int .i64 w.item,.int .i64 w.at_]:=(rfl)
theorem stp_cs (s:Stp):s.cs=[.int .i64 s.kind,.str s.label]:=(rfl)
theorem idd_cs (i:Idd):i.cs=[.int .i64 i.act,.int .i64 i.item,.int .i64 i.n]:=(rfl)
theorem fnd_cs (f:Fnd):f.cs=[.int .i64 f.at_,.int .i64 f.id.act,.int .i64 f.id.item,.int .i64 f.id.n,.int .i64 f.why,.str f.text]:=(rfl)
theorem mL (s:List UInt8):srow s=[.str s]:=(rfl)
theorem zU_eq:zU=[.int .i64 0,.int .i64 0,.int .i64 0,.int .i64 0,.str [],.nil,.nil,.nil]:=(rfl)
theorem zItm_eq:zItm=[.int .i64 0,.nil,.nil,.int .i64 0,.int .i64 0,.int .i64 0,.int .i64 0,.int .i64 0,.int .i64 0,.str [],.nil,.nil,.nil,.nil,.nil,.str [],.str [],.int .i64 0,.int .i64 0,.str [],.int .i64 0,.int .i64 0,.int .i64 0,.str [],.nil]:=(rfl)
set_option linter.defProp false
def EV7:=AI (AI (AI U.cs_len Itm.cs_len) (AI U.cs_drop Itm.cs_drop)) (AI (AI (AI U.cs_take (AI U.cs_take3 U.cs_head)) (AI Itm.cs_take Itm.cs_head)) (AI (AI (AI wd_cs stp_cs) (AI idd_cs fnd_cs)) (AI (AI mL (AI zU_eq zItm_eq)) (AI (AI @List.length_map.{0,0} @Int.toNat_natCast) @List.append_nil.{0}))))
/-! ### walks: either order; a loop over a list -/
theorem ae {G:Glob} {P:Program} {a b:DT} {env:Env} {σ:Store} {K:Env->Store->Prop} {t:Tag K} (h1:TR G P a env σ K ⟨⟩) (h2:TR G P b env σ K ⟨⟩):TR G P (.both a b) env σ K t:=⟨h1,h2⟩
theorem af {G:Glob} {env:Env} {σ:Store} {K:Env->Store->Prop} (h:K env σ):∃env' σ',Weak G env σ env' σ'/\K env' σ':=⟨env,σ,Weak.rfl' _ _,h⟩
def LK {α ι:Type} (G:Glob) (l:List α) (ok:Nat->List α->ι->Prop) (st:Nat->ι->Env) (ss:Nat->ι->Store) (i:Nat):Env->Store->Prop:=
 λenv σ=>∃j:Nat×List α×ι,(l.drop j.1=j.2.1/\j.1<=l.length/\ok j.1 j.2.1 j.2.2)/\l.length-j.1<l.length-i/\Weak G env σ (st j.1 j.2.2) (ss j.1 j.2.2)
theorem am {α ι:Type} {G:Glob} {l:List α} {ok:Nat->List α->ι->Prop} {st:Nat->ι->Env} {ss:Nat->ι->Store} {i:Nat} {x:α} {r:List α} {env:Env} {σ:Store} (hx:Rest l i x r) (c:ι) (h:ok (i+1) r c)
  (hw:Weak G env σ (st (i+1) c) (ss (i+1) c)):LK G l ok st ss i env σ:=⟨(i+1,r,c),⟨hx.next,hx.le,h⟩,hx.step,hw⟩
theorem ax {α ι:Type} {G:Glob} {P:Program} {a:SCode} {Q:Exit->Env->Store->Prop} {tQ:Tag Q} {env:Env} {σ:Store} (l:List α) (ok:Nat->List α->ι->Prop) (st:Nat->ι->Env) (ss:Nat->ι->Store) (c0:ι)
  (h0:ok 0 l c0) (hw:Weak G env σ (st 0 c0) (ss 0 c0)) (hl:l.length<9000000000000000000)
  (more:∀i x r c,ok i (x::r) c->Rest l i x r->IntKind.i64.wrap ((i:Int)+1)=((i+1:Nat):Int)->W G P a (NR (LK G l ok st ss i) Q ⟨⟩ ⟨⟩) (st i c) (ss i c) ⟨⟩)
  (fin:∀c,ok l.length [] c->decide ((l.length:Int)<(l.length:Int))=false->W G P a (NR (LK G l ok st ss l.length) Q ⟨⟩ ⟨⟩) (st l.length c) (ss l.length c) ⟨⟩):W G P (.loop a) Q env σ tQ:=by
 refine bv (ι:=Nat×List α×ι) (λj=>l.drop j.1=j.2.1/\j.1<=l.length/\ok j.1 j.2.1 j.2.2) (λj=>l.length-j.1) (λj=>st j.1 j.2.2) (λj=>ss j.1 j.2.2) (0,l,c0) ⟨rfl,Nat.zero_le _,h0⟩ hw ?_
 rintro⟨i,r,c⟩ ⟨h1,h2,h3⟩
 simp only at h1 h2 h3 ⊢
 cases r with
 |nil=>
  obtain rfl:=nB h1 h2
  exact fin c h3 (by simp)
 |cons x r=>
  have hx:=ge h1
  exact more i x r c h3 hx (jA (by have:=hx.lt;omega))
theorem keys_cons {k:Nat} {x:AObj} {σ:Store}:Store.keys ((k,x)::σ)=k::σ.keys:=rfl
theorem keys_nil:Store.keys []=[]:=rfl
def EVC:=(AI (AI (AI @List.all_cons.{0} (AI @List.all_nil.{0} @List.any_cons.{0})) (AI (AI @List.any_nil.{0} @Bool.not_false) (AI @Bool.not_true @Bool.false_and))) (AI (AI @Bool.and_false (AI @Bool.true_and @Bool.and_true)) (AI (AI @Bool.false_or @Bool.or_false) (AI @Bool.true_or @Bool.or_true))))
def EVB:=(AI (AI (AI (AI @Bool.and_eq_false_iff @Bool.or_eq_false_iff) (AI @beq_eq_false_iff_ne.{0} (AI @Bool.not_true @Bool.not_false))) (AI (AI @Bool.and_eq_true (AI @Bool.or_eq_true @decide_eq_true_eq)) (AI @decide_eq_false_iff_not (AI @beq_iff_eq.{0} @bne_iff_ne.{0})))) (AI (AI (AI @ne_eq.{1} @Bool.not_eq_true') (AI @Bool.not_eq_true (AI @Bool.not_eq_false @Bool.false_eq_true))) (AI (AI @Bool.true_eq_false (AI @false_iff @iff_false)) (AI @true_iff (AI @iff_true @Bool.not_eq_eq_eq_not)))))
def EVK:=(AI (AI (AI @keys_cons @keys_nil) (AI @List.mem_cons.{0} @List.not_mem_nil.{0})) (AI (AI @not_or @or_false) (AI @not_false_eq_true (AI @and_true @true_and))))
def EVz:=(AI (AI (AI EV1 EV2) (AI EV3 EV4)) (AI EV5 (AI @eq_self.{1} (AI @Option.map_some.{0,0} (AI @decide_true @decide_false)))))
end Go.Av
namespace Go.Av
open Go List
set_option linter.unusedSimpArgs false
set_option linter.unusedVariables false
abbrev qa (d:Nat) (x:SOp):SOper:=⟨some d,none,x⟩
abbrev qb (d g:Nat) (x:SOp):SOper:=⟨some d,some (g,true),x⟩
abbrev qc (d g:Nat) (x:SOp):SOper:=⟨some d,some (g,false),x⟩
abbrev qi (n:Int):SOpd:=.c (.int .i64 n)
abbrev qt:SOpd:=.c (.bool true)
abbrev qf:SOpd:=.c (.bool false)
abbrev qs (a b:SCode):SCode:=.seq a b
abbrev ql (x:SOpd):SOp:=.load false 1 x
abbrev mt (a:Nat):SOp:=.mov (.t a)
abbrev fa (a b:Nat):SOp:=.fieldA a (.t b)
abbrev lo (a:Nat):SOp:=ql (.t a)
abbrev lm (a b:Nat):SOp:=.load true a (.t b)
abbrev qr (a:List SOper) (b:List Nat):SCode:=.region a b
abbrev RL:=List (Nat×Option (Bool×Nat))
abbrev Qm (d:Nat) (a:Nat):SOper:=qa d (mt a)
abbrev Bm (d k:Nat) (a:Nat):SOper:=qb d k (mt a)
abbrev Ym (d k:Nat) (a:Nat):SOper:=qc d k (mt a)
abbrev Qo (d:Nat) (a:Nat):SOper:=qa d (lo a)
abbrev Qa (d:Nat) (a:Nat) (b:Nat):SOper:=qa d (fa a b)
abbrev Ql (d:Nat) (a:Nat) (b:Nat):SOper:=qa d (lm a b)
abbrev Qe (d:Nat) (a:Nat) (b:Nat):SOper:=qa d (.extract a (.t b))
abbrev Qb (d:Nat) (a:Nat) (b:Nat):SOper:=qa d (.boxR a (.t b))
abbrev QB (d:Nat) (a:Nat) (b:Nat) (c:Nat):SOper:=qa d (.box a b (.t c))
abbrev Qi (d:Nat) (m:Int):SOper:=qa d (.mov (qi m))
abbrev Qf (d:Nat):SOper:=qa d (.mov qf)
abbrev Qt (d:Nat):SOper:=qa d (.mov qt)
abbrev Qz (d:Nat):SOper:=qa d (.mov (.c .nil))
abbrev Qp (d:Nat) (a:Nat) (b:Nat):SOper:=qa d (.pick (.t a) (.t b) qf)
abbrev Qq (d:Nat) (a:Nat) (b:Nat):SOper:=qa d (.pick (.t a) qt (.t b))
abbrev Qn (d:Nat) (a:Nat):SOper:=qa d (.len (.t a))
abbrev QN (d:Nat) (a:Nat):SOper:=qa d (.lenS (.t a))
abbrev Qx (d:Nat) (a:Nat) (b:Nat) (c:Nat):SOper:=qa d (.indexA a (.t b) (.t c))
abbrev QU (d:Nat) (a:Nat):SOper:=qa d (.alloc a zU)
abbrev Qw (d:Nat) (a:Nat) (b:Nat) (c:Nat) (e:Nat) (f:Nat):SOper:=qa d (.append a b c (.t e) (.t f))
abbrev Qc (d:Nat) (a:Nat):SOper:=qa d (.nilCheck (.t a))
abbrev Qr (d:Nat) (a:Nat):SOper:=qa d (.not (.t a))
abbrev Qs (d:Nat) (a:Nat) (b:Nat):SOper:=qa d (.loadF true a (.t b))
abbrev Q0 (d:Nat) (a:Nat):SOper:=qa d (.call (.f a) [])
abbrev Q1 (d:Nat) (a:Nat) (b:Nat):SOper:=qa d (.call (.f a) [.t b])
abbrev Q2 (d:Nat) (a:Nat) (b:Nat) (c:Nat):SOper:=qa d (.call (.f a) [.t b,.t c])
abbrev Q3 (d:Nat) (a:Nat) (b:Nat) (c:Nat) (e:Nat):SOper:=qa d (.call (.f a) [.t b,.t c,.t e])
abbrev Q4 (d:Nat) (a:Nat) (b:Nat) (c:Nat) (e:Nat) (f:Nat):SOper:=qa d (.call (.f a) [.t b,.t c,.t e,.t f])
abbrev Q5 (d:Nat) (a:Nat) (b:Nat) (c:Nat) (e:Nat) (f:Nat) (g:Nat):SOper:=qa d (.call (.f a) [.t b,.t c,.t e,.t f,.t g])
abbrev Q6 (d:Nat) (a:Nat) (b:Nat) (c:Nat) (e:Nat) (f:Nat) (g:Nat) (h:Nat):SOper:=qa d (.call (.f a) [.t b,.t c,.t e,.t f,.t g,.t h])
abbrev Qu (d:Nat) (o:BinOp) (a:Nat) (m:Int):SOper:=qa d (.bin o (.t a) (qi m))
abbrev Qv (d:Nat) (o:BinOp) (a:Nat) (b:Nat):SOper:=qa d (.bin o (.t a) (.t b))
abbrev QA (d:Nat):SOper:=qa d (.build zU [])
abbrev QI (d:Nat) (a:Nat) (b:Nat):SOper:=qa d (.index (.t a) (.t b))
abbrev QS (a b c:Nat):SOper:=⟨none,none,.store a (.t b) (.t c)⟩
abbrev qR (a:List SOper) (b:List Nat) (c:SCode):SCode:=qs (qr a b) c
abbrev qX (a:Nat):SCode:=.cond (.t a) .skip (.exit 0)
abbrev qL (a:SCode):SCode:=.block 0 (.loop a)
noncomputable abbrev FB (k:Nat) (l:List Nat):=fnAt Proofs.Tryz.prog k l
abbrev Zh4:SCode:=qR [Qi 4 (-1)] [4] .ret
abbrev Zh3:SCode:=qr [Qu 18 .add 8 1,Qm 8 18] [0,1,7,8]
abbrev Zh2:SCode:=.cond (.t 16) (qR [Qm 17 5,Qm 4 17] [4] .ret) .skip
abbrev Zh1:SCode:=qR [Qf 2] [2] .ret
abbrev Zh0:List SOper:=[Qb 1 25 0,qa 2 (.alloc 61 zItm)]
def r9:RL:=[(2,none)]
def s9:SCode:=qR [Qb 1 8 0,Qf 2] [1] (qR [Ql 3 8 1,qa 4 (.call (.f 36) [.t 3,.f 37]),Qm 5 4,qb 6 5 (lm 8 1),qb 7 5 (.call (.f 38) [.t 6]),qb 8 5 (.bin .leq (.t 7) (qi 8)),Qp 9 5 8,Qm 10 9,qb 11 10 (lm 8 1),qb 12 10 (.call (.f 39) [.t 11]),qb 13 10 (.bin .leq (.t 12) (qi 1024)),Qp 14 10 13,Qm 15 14,qb 16 15 (lm 8 1),qb 17 15 (.call (.f 40) [.t 16]),Qp 18 15 17,Qm 2 18] [2] .ret)
theorem c9:FB 9 [2000001]=some (r9,s9):=by kernel_rfl
def r33:RL:=[(2,none)]
def s33:SCode:=qR [Qb 1 8 0,Qi 2 0] [1] (qR [Qi 3 0] [1,3] (qs (qR [Qi 4 0] [1,3,4] (qs (.block 0 (.loop (qs (qR [Qm 5 4,Qa 6 7 1,Qo 7 6,Qn 8 7,Qv 9 .lss 5 8] [1,3,4,9] (qX 9)) (qs (qs (.block 1 (qr [Qm 12 3,Qa 13 7 1,Qo 14 13,Qm 15 4,Qx 16 8 14 15,Ql 17 8 16,Q1 18 33 17,qa 19 (.bin .add (qi 1) (.t 18)),qa 20 (.raw (.call (.mk (.builtin .max) #[.tmp 12,.tmp 19] #[3,3]))),Qm 3 20] [1,3,4])) (qr [] [1,3,4])) (qr [Qm 10 4,Qu 11 .add 10 1,Qm 4 11] [1,3,4]))))) (qr [] [3]))) (qR [Qm 21 3,Qm 2 21] [2] .ret)))
theorem c33:FB 33 [2000001]=some (r33,s33):=by kernel_rfl
def r36:RL:=[(4,none)]
def s36:SCode:=qR [Qb 2 8 0,Qf 4] [1,2] (qs (qR [Qm 7 1,Ql 8 8 2,qa 9 (.call (.t 7) [.t 8]),Qr 10 9] [1,2,10] (.cond (.t 10) (qR [Qf 4] [4] .ret) .skip)) (qs (qR [Qa 11 7 2,Qo 12 11,Qn 13 12,Qi 14 0] [1,12,13,14] (qs (.block 0 (.loop (qR [Qv 15 .lss 14 13] [1,12,13,14,15] (qs (qX 15) (qs (qs (.block 1 (qR [Qx 16 8 12 14,Ql 17 8 16,QU 6 29,QS 8 6 17] [1,6,12,13,14] (qR [Ql 18 8 6,Qm 19 1,Q2 20 36 18 19,Qr 21 20] [1,12,13,14,21] (.cond (.t 21) (qR [Qf 4] [4] .ret) .skip)))) (qr [] [1,12,13,14])) (qr [Qu 22 .add 14 1,Qm 14 22] [1,12,13,14])))))) (qr [] []))) (qR [Qt 4] [4] .ret)))
theorem c36:FB 36 [2000002]=some (r36,s36):=by kernel_rfl
def r39:RL:=[(2,none)]
def s39:SCode:=qR [Qb 1 8 0,Qi 2 0] [1] (qR [qa 3 (.alloc 3 [.int .i64 0]),⟨none,none,.store 1 (.t 3) (qi 0)⟩] [1,3] (qR [Ql 4 8 1,qa 5 (.mkfun (.func 78) [] [.t 3]),Q2 6 36 4 5] [3] (qR [Qo 7 3,Qm 2 7] [2] .ret)))
theorem c39:FB 39 [2000001]=some (r39,s39):=by kernel_rfl
def r72:RL:=[(2,none)]
def s72:SCode:=qR [Qb 1 8 0,Qf 2] [1] (qs (qR [Qa 3 3 1,Qo 4 3,Qu 5 .lss 4 0,Qm 6 5,qc 7 6 (fa 3 1),qc 8 6 (lo 7),qc 9 6 (.bin .gtr (.t 8) (qi 7)),Qq 10 6 9,Qm 11 10,qc 12 11 (fa 7 1),qc 13 11 (lo 12),qc 14 11 (.len (.t 13)),qc 15 11 (.bin .gtr (.t 14) (qi 64)),Qq 16 11 15,Qm 17 16,qc 18 17 (fa 5 1),qc 19 17 (lo 18),qc 20 17 (.call (.f 125) [.t 19]),qc 21 17 (.not (.t 20)),Qq 22 17 21,Qm 23 22,qc 24 23 (fa 6 1),qc 25 23 (lo 24),qc 26 23 (.call (.f 125) [.t 25]),qc 27 23 (.not (.t 26)),Qq 28 23 27] [1,28] (.cond (.t 28) Zh1 .skip)) (qs (qR [Qa 29 3 1,Qo 30 29,Qu 31 .eql 30 0] [1,31] (.cond (.t 31) (qR [Qa 32 4 1,Qo 33 32,qa 34 (.bin .eql (.t 33) (.c (.str []))),Qm 35 34,qb 36 35 (fa 5 1),qb 37 35 (lo 36),qb 38 35 (.len (.t 37)),qb 39 35 (.bin .eql (.t 38) (qi 0)),Qp 40 35 39,Qm 41 40,qb 42 41 (fa 6 1),qb 43 41 (lo 42),qb 44 41 (.len (.t 43)),qb 45 41 (.bin .eql (.t 44) (qi 0)),Qp 46 41 45,Qm 2 46] [2] .ret) .skip)) (qR [Qa 47 4 1,Qo 48 47,Q1 49 126 48,Qm 2 49] [2] .ret)))
theorem c72:FB 72 [2000001]=some (r72,s72):=by kernel_rfl
def r75:RL:=[(2,none)]
def s75:SCode:=qR [Qf 2] [0] (qR [Qm 7 0,Q1 8 127 7,Qm 6 8,Qe 9 0 6,Qe 10 1 6,Qm 3 9,Qm 4 10] [3,4] (qR [qa 5 (.mov (.f 128))] [3,4,5] (qR [Qm 11 3,QN 12 11,Qu 13 .geq 12 1,Qm 14 13,Bm 15 14 3,qb 16 14 (.lenS (.t 15)),qb 17 14 (.bin .leq (.t 16) (qi 4)),Qp 18 14 17,Qm 19 18,Bm 20 19 3,qb 21 19 (.index (.t 20) (qi 0)),qb 22 19 (.bin .neq (.t 21) (.c (.int .u8 48))),Qp 23 19 22,Qm 24 23,Bm 25 24 4,qb 26 24 (.lenS (.t 25)),qb 27 24 (.bin .leq (.t 26) (qi 3)),Qp 28 24 27,Qm 29 28,Bm 30 29 4,Bm 31 29 5,qb 32 29 (.call (.f 129) [.t 30,.t 31]),qb 33 29 (.not (.t 32)),Qp 34 29 33,Qm 2 34] [2] .ret)))
theorem c75:FB 75 []=some (r75,s75):=by kernel_rfl
def r78:RL:=[(3,none)]
def s78:SCode:=qR [Qb 2 8 0,Qf 3] [1] (qR [Qo 4 1,Qu 5 .add 4 1,QS 1 1 5] [] (qR [Qt 3] [3] .ret))
theorem c78:FB 78 [2000002]=some (r78,s78):=by kernel_rfl
def r117:RL:=[(2,none)]
def s117:SCode:=qR [Qf 2] [0] (qs (qR [Qm 5 0,Qn 6 5,Qi 7 0] [0,5,6,7] (qs (.block 0 (.loop (qR [Qv 8 .lss 7 6] [0,5,6,7,8] (qs (qX 8) (qs (qs (.block 1 (qR [Qm 9 7,Qx 10 2 5 7,Ql 11 2 10,qa 4 (.alloc 128 [.int .i64 0,.str []]),Qm 3 9,QS 2 4 11] [0,3,4,5,6,7] (qs (qR [Qm 12 3,Qu 13 .eql 12 0,Qm 14 13,qb 15 14 (lm 2 4),qb 16 14 (.call (.f 174) [.t 15]),Qp 17 14 16] [0,4,5,6,7,17] (.cond (.t 17) (.exit 1) .skip)) (qR [Qa 18 0 4,Qo 19 18,Qu 20 .leq 19 0,Qm 21 20,qc 22 21 (fa 0 4),qc 23 21 (lo 22),qc 24 21 (.bin .gtr (.t 23) (qi 7)),Qq 25 21 24,Qm 26 25,qc 27 26 (fa 1 4),qc 28 26 (lo 27),qc 29 26 (.call (.f 75) [.t 28]),qc 30 26 (.not (.t 29)),Qq 31 26 30] [0,5,6,7,31] (.cond (.t 31) Zh1 .skip))))) (qr [] [0,5,6,7])) (qr [Qu 32 .add 7 1,Qm 7 32] [0,5,6,7])))))) (qr [] [0]))) (qR [Qm 33 0,Qn 34 33,Qu 35 .leq 34 9,Qm 2 35] [2] .ret))
theorem c117:FB 117 []=some (r117,s117):=by kernel_rfl
def r120:RL:=[(4,none)]
def s120:SCode:=qR [Qb 2 25 0,Qb 3 25 1,Qf 4] [2,3] (qR [Qa 8 0 2,Qo 9 8,Qa 10 0 3,Qo 11 10,Qv 12 .eql 9 11,Qm 13 12,qb 14 13 (fa 3 2),qb 15 13 (lo 14),qb 16 13 (fa 3 3),qb 17 13 (lo 16),qb 18 13 (.bin .eql (.t 15) (.t 17)),Qp 19 13 18,Qm 20 19,qb 21 20 (fa 4 2),qb 22 20 (lo 21),qb 23 20 (fa 4 3),qb 24 20 (lo 23),qb 25 20 (.bin .eql (.t 22) (.t 24)),Qp 26 20 25,Qm 27 26,qb 28 27 (fa 20 2),qb 29 27 (lo 28),qb 30 27 (fa 20 3),qb 31 27 (lo 30),qb 32 27 (.bin .eql (.t 29) (.t 31)),Qp 33 27 32,Qm 34 33,qb 35 34 (fa 21 2),qb 36 34 (lo 35),qb 37 34 (fa 21 3),qb 38 34 (lo 37),qb 39 34 (.bin .eql (.t 36) (.t 38)),Qp 40 34 39,Qm 41 40,qb 42 41 (fa 22 2),qb 43 41 (lo 42),qb 44 41 (fa 22 3),qb 45 41 (lo 44),qb 46 41 (.bin .eql (.t 43) (.t 45)),Qp 47 41 46,Qm 5 47] [2,3,5] (qR [Qa 48 15 2,Qo 49 48,Qa 50 15 3,Qo 51 50,Qv 52 .eql 49 51,Qm 53 52,qb 54 53 (fa 16 2),qb 55 53 (lo 54),qb 56 53 (fa 16 3),qb 57 53 (lo 56),qb 58 53 (.bin .eql (.t 55) (.t 57)),Qp 59 53 58,Qm 60 59,qb 61 60 (fa 23 2),qb 62 60 (lo 61),qb 63 60 (fa 23 3),qb 64 60 (lo 63),qb 65 60 (.bin .eql (.t 62) (.t 64)),Qp 66 60 65,Qm 67 66,qb 68 67 (fa 17 2),qb 69 67 (lm 3 68),qb 70 67 (fa 17 3),qb 71 67 (lm 3 70),qb 72 67 (.eqs false [1,1,2] (.t 69) (.t 71)),Qp 73 67 72,Qm 6 73] [2,3,5,6] (qR [Qa 74 1 2,Qo 75 74,Qa 76 1 3,Qo 77 76,Q2 78 176 75 77,Qm 79 78,qb 80 79 (fa 2 2),qb 81 79 (lo 80),qb 82 79 (fa 2 3),qb 83 79 (lo 82),qb 84 79 (.call (.f 176) [.t 81,.t 83]),Qp 85 79 84,Qm 86 85,qb 87 86 (fa 13 2),qb 88 86 (lo 87),qb 89 86 (fa 13 3),qb 90 86 (lo 89),qb 91 86 (.call (.f 88) [.t 88,.t 90]),Qp 92 86 91,Qm 93 92,qb 94 93 (fa 14 2),qb 95 93 (lo 94),qb 96 93 (fa 14 3),qb 97 93 (lo 96),qb 98 93 (.call (.f 88) [.t 95,.t 97]),Qp 99 93 98,Qm 7 99] [2,3,5,6,7] (qR [Qm 100 5,Qm 101 100,Bm 102 101 6,Qp 103 101 102,Qm 104 103,Bm 105 104 7,Qp 106 104 105,Qm 107 106,qb 108 107 (fa 5 2),qb 109 107 (lm 8 108),qb 110 107 (fa 5 3),qb 111 107 (lm 8 110),qb 112 107 (.call (.f 177) [.t 109,.t 111]),Qp 113 107 112,Qm 114 113,qb 115 114 (fa 24 2),qb 116 114 (lo 115),qb 117 114 (fa 24 3),qb 118 114 (lo 117),qb 119 114 (.call (.f 178) [.t 116,.t 118,.f 120]),Qp 120 114 119,Qm 4 120] [4] .ret))))
theorem c120:FB 120 [2000002,2000003]=some (r120,s120):=by kernel_rfl
def r126:RL:=[(2,none)]
def s126:SCode:=qR [Qf 2] [0] (qR [Qm 5 0,Q1 6 187 5,Qm 3 6] [0,3] (qs (qR [Qm 7 3,Qu 8 .lss 7 1,Qm 9 8,Ym 10 9 3,qc 11 9 (.bin .gtr (.t 10) (qi 4)),Qq 12 9 11,Qm 13 12,Ym 14 13 0,qc 15 13 (.index (.t 14) (qi 0)),qc 16 13 (.bin .eql (.t 15) (.c (.int .u8 48))),Qq 17 13 16,Qm 18 17,Ym 19 18 0,qc 20 18 (.lenS (.t 19)),Ym 21 18 3,qc 22 18 (.bin .sub (.t 20) (.t 21)),qc 23 18 (.bin .gtr (.t 22) (qi 3)),Qq 24 18 23] [0,3,24] (.cond (.t 24) Zh1 .skip)) (qs (qR [Qm 25 3,Qm 4 25] [0,4] (qs (.block 0 (.loop (qs (qR [Qm 26 4,Qm 27 0,QN 28 27,Qv 29 .lss 26 28] [0,4,29] (qX 29)) (qs (qs (.block 1 (qR [Qm 32 0,Qm 33 4,QI 34 32 33,qa 35 (.bin .lss (.t 34) (.c (.int .u8 65))),Qm 36 35,Ym 37 36 0,Ym 38 36 4,qc 39 36 (.index (.t 37) (.t 38)),qc 40 36 (.bin .gtr (.t 39) (.c (.int .u8 90))),Qq 41 36 40] [0,4,41] (.cond (.t 41) Zh1 .skip))) (qr [] [0,4])) (qr [Qm 30 4,Qu 31 .add 30 1,Qm 4 31] [0,4]))))) (qr [] []))) (qR [Qt 2] [2] .ret))))
theorem c126:FB 126 []=some (r126,s126):=by kernel_rfl
def r132:RL:=[(2,none)]
def s132:SCode:=qR [Qf 2] [0] (qs (qR [Qi 3 0] [0,3] (qs (.block 0 (.loop (qs (qR [Qm 4 3,Qm 5 0,Qn 6 5,Qv 7 .lss 4 6] [0,3,7] (qX 7)) (qs (qs (.block 1 (qR [Qm 10 0,Qm 11 3,Qx 12 4 10 11,Qa 13 0 12,Qo 14 13,QN 15 14,Qu 16 .gtr 15 100] [0,3,16] (.cond (.t 16) Zh1 .skip))) (qr [] [0,3])) (qr [Qm 8 3,Qu 9 .add 8 1,Qm 3 9] [0,3]))))) (qr [] [0]))) (qR [Qm 17 0,Qn 18 17,Qu 19 .leq 18 300,Qm 2 19] [2] .ret))
theorem c132:FB 132 []=some (r132,s132):=by kernel_rfl
def r147:RL:=[(4,none)]
def s147:SCode:=qR [Qi 4 0] [0,1] (qs (qR [Qm 6 0,Qn 7 6,Qi 8 0] [0,1,7,8] (qs (.block 0 (.loop (qR [Qv 9 .lss 8 7] [0,1,7,8,9] (qs (qX 9) (qs (qs (.block 1 (qR [Qm 10 8,Qm 5 10] [0,1,5,7,8] (qR [Qm 11 1,Qm 12 0,Qm 13 5,Qx 14 1 12 13,Qo 15 14,Qv 16 .eql 11 15] [0,1,5,7,8,16] Zh2))) (qr [] [0,1,7,8])) Zh3))))) (qr [] []))) Zh4)
theorem c147:FB 147 []=some (r147,s147):=by kernel_rfl
def r150:RL:=[(2,some (true,25))]
def s150:SCode:=qR Zh0 [1,2] (qR [Qa 3 3 1,Qo 4 3,Qa 5 5 1,Ql 6 8 5,qa 7 (.build zItm [(3,(1,.t 4)),(5,(8,.t 6))]),QS 25 2 7] [2] .ret)
theorem c150:FB 150 [2000001]=some (r150,s150):=by kernel_rfl
def r153:RL:=[(2,none)]
def s153:SCode:=qR [Qb 1 8 0,Qf 2] [1] (qR [Ql 6 8 1,Q1 7 203 6,Qm 5 7,Qe 8 0 5,Qe 9 1 5,Qm 3 8,Qm 4 9] [1,4] (qR [Ql 10 8 1,Q1 11 204 10,Qm 12 11,qb 13 12 (fa 3 1),qb 14 12 (lo 13),qb 15 12 (.bin .neq (.t 14) (qi 0)),Qp 16 12 15,Qm 17 16,Bm 18 17 4,qb 19 17 (.bin .eql (.t 18) (qi 0)),Qp 20 17 19,Qm 2 20] [2] .ret))
theorem c153:FB 153 [2000001]=some (r153,s153):=by kernel_rfl
def r156:RL:=[(2,some (true,25))]
def s156:SCode:=qR Zh0 [1,2] (qR [Qa 3 13 1,Qo 4 3,Qa 5 14 1,Qo 6 5,Qa 7 4 1,Qo 8 7,qa 9 (.build zItm [(13,(1,.t 4)),(14,(1,.t 6)),(4,(1,.t 8))]),QS 25 2 9] [2] .ret)
theorem c156:FB 156 [2000001]=some (r156,s156):=by kernel_rfl
def r159:RL:=[(2,none)]
def s159:SCode:=qR [Qb 1 25 0,Qf 2] [1] (qR [Qa 3 4 1,Qo 4 3,qa 5 (.call (.f 170) [.t 4,qi 0,qi 256]),Qm 2 5] [2] .ret)
theorem c159:FB 159 [2000001]=some (r159,s159):=by kernel_rfl
def r162:RL:=[(2,some (true,25))]
def s162:SCode:=qR Zh0 [1,2] (qR [Qa 3 14 1,Qo 4 3,qa 5 (.build zItm [(14,(1,.t 4))]),QS 25 2 5] [2] .ret)
theorem c162:FB 162 [2000001]=some (r162,s162):=by kernel_rfl
def r165:RL:=[(2,none)]
def s165:SCode:=qR [Qb 1 25 0,Qf 2] [1] (qR [Qa 3 15 1,Qo 4 3,Q1 5 75 4,Qm 2 5] [2] .ret)
theorem c165:FB 165 [2000001]=some (r165,s165):=by kernel_rfl
def r168:RL:=[(2,some (true,25))]
def s168:SCode:=qR Zh0 [1,2] (qR [Qa 3 23 1,Qo 4 3,Qa 5 22 1,Qo 6 5,qa 7 (.build zItm [(23,(1,.t 4)),(22,(1,.t 6))]),QS 25 2 7] [2] .ret)
theorem c168:FB 168 [2000001]=some (r168,s168):=by kernel_rfl
def r171:RL:=[(2,some (true,25))]
def s171:SCode:=qR Zh0 [1,2] (qR [Qa 3 20 1,Qo 4 3,Qa 5 21 1,Qo 6 5,Qa 7 24 1,Qo 8 7,qa 9 (.build zItm [(20,(1,.t 4)),(21,(1,.t 6)),(24,(1,.t 8))]),QS 25 2 9] [2] .ret)
theorem c171:FB 171 [2000001]=some (r171,s171):=by kernel_rfl
def r174:RL:=[(2,none)]
def s174:SCode:=qR [Qb 1 2 0,Qf 2] [1] (qR [Qa 3 0 1,Qo 4 3,Qu 5 .eql 4 0,Qm 6 5,qb 7 6 (fa 1 1),qb 8 6 (lo 7),qb 9 6 (.bin .eql (.t 8) (.c (.str []))),Qp 10 6 9,Qm 2 10] [2] .ret)
theorem c174:FB 174 [2000001]=some (r174,s174):=by kernel_rfl
def r177:RL:=[(4,none)]
def s177:SCode:=qR [Qb 2 8 0,Qb 3 8 1,Qf 4] [2,3] (qR [Qa 5 0 2,Ql 6 3 5,Qa 7 0 3,Ql 8 3 7,qa 9 (.eqs false [1,1,1] (.t 6) (.t 8)),Qm 10 9,qb 11 10 (fa 3 2),qb 12 10 (lo 11),qb 13 10 (fa 3 3),qb 14 10 (lo 13),qb 15 10 (.bin .eql (.t 12) (.t 14)),Qp 16 10 15,Qm 17 16,qb 18 17 (fa 4 2),qb 19 17 (lo 18),qb 20 17 (fa 4 3),qb 21 17 (lo 20),qb 22 17 (.bin .eql (.t 19) (.t 21)),Qp 23 17 22,Qm 24 23,qb 25 24 (fa 5 2),qb 26 24 (lo 25),qb 27 24 (fa 5 3),qb 28 24 (lo 27),qb 29 24 (.call (.f 212) [.t 26,.t 28]),Qp 30 24 29,Qm 31 30,qb 32 31 (fa 6 2),qb 33 31 (lo 32),qb 34 31 (fa 6 3),qb 35 31 (lo 34),qb 36 31 (.call (.f 212) [.t 33,.t 35]),Qp 37 31 36,Qm 38 37,qb 39 38 (fa 7 2),qb 40 38 (lo 39),qb 41 38 (fa 7 3),qb 42 38 (lo 41),qb 43 38 (.call (.f 213) [.t 40,.t 42,.f 177]),Qp 44 38 43,Qm 4 44] [4] .ret)
theorem c177:FB 177 [2000002,2000003]=some (r177,s177):=by kernel_rfl
def r186:RL:=[(2,none)]
def s186:SCode:=qR [Qf 2] [0] (qs (qR [Qm 4 0,Qn 5 4,Qu 6 .gtr 5 256] [0,6] (.cond (.t 6) Zh1 .skip)) (qs (qR [Qi 3 0] [0,3] (qs (.block 0 (.loop (qs (qR [Qm 7 3,Qm 8 0,Qn 9 8,Qv 10 .lss 7 9] [0,3,10] (qX 10)) (qs (qs (.block 1 (qR [Qm 13 0,Qm 14 3,Qx 15 1 13 14,Qo 16 15,Q1 17 238 16,Qr 18 17] [0,3,18] (.cond (.t 18) Zh1 .skip))) (qr [] [0,3])) (qr [Qm 11 3,Qu 12 .add 11 1,Qm 3 12] [0,3]))))) (qr [] []))) (qR [Qt 2] [2] .ret)))
theorem c186:FB 186 []=some (r186,s186):=by kernel_rfl
def r189:RL:=[(2,none)]
def s189:SCode:=qR [Qf 2] [0] (qR [Qm 3 0,qa 4 (.bin .lss (.t 3) (.c (.int .i32 48))),Qm 5 4,Ym 6 5 0,qc 7 5 (.bin .gtr (.t 6) (.c (.int .i32 57))),Qq 8 5 7,Qm 2 8] [2] .ret)
theorem c189:FB 189 []=some (r189,s189):=by kernel_rfl
def r192:RL:=[(2,none)]
def s192:SCode:=qR [Qf 2] [0] (qR [qa 3 (.mov (.f 241))] [0,3] (qR [Qm 4 0,qa 5 (.bin .neq (.t 4) (.c (.str []))),Qm 6 5,Bm 7 6 0,qb 8 6 (.lenS (.t 7)),qb 9 6 (.bin .leq (.t 8) (qi 24)),Qp 10 6 9,Qm 11 10,Bm 12 11 0,qb 13 11 (.raw (.convert 9 264 (.tmp 12))),Bm 14 11 3,qb 15 11 (.call (.f 242) [.t 13,.t 14]),qb 16 11 (.not (.t 15)),Qp 17 11 16,Qm 2 17] [2] .ret))
theorem c192:FB 192 []=some (r192,s192):=by kernel_rfl
def r204:RL:=[(2,none)]
def s204:SCode:=qR [Qb 1 8 0,Qf 2] [1] (qR [Ql 3 8 1,Q1 4 9 3,Qm 5 4,qb 6 5 (lm 8 1),qb 7 5 (.call (.f 36) [.t 6,.f 256]),Qp 8 5 7,Qm 2 8] [2] .ret)
theorem c204:FB 204 [2000001]=some (r204,s204):=by kernel_rfl
def r213:RL:=[(6,none)]
def s213:SCode:=qR [Qf 6] [0,1,2] (qs (qR [Qm 10 0,Qn 11 10,Qm 12 1,Qn 13 12,Qv 14 .neq 11 13] [0,1,2,14] (.cond (.t 14) (qR [Qf 6] [6] .ret) .skip)) (qs (qR [Qm 15 0,Qn 16 15,Qi 17 0] [1,2,15,16,17] (qs (.block 0 (.loop (qR [Qv 18 .lss 17 16] [1,2,15,16,17,18] (qs (qX 18) (qs (qs (.block 1 (qR [Qm 19 17,Qx 20 8 15 17,Ql 21 8 20,QU 8 29,Qm 7 19,QS 8 8 21] [1,2,7,8,15,16,17] (qR [Qm 22 1,Qm 23 7,Qx 24 8 22 23,Ql 25 8 24,QU 9 29,QS 8 9 25] [1,2,8,9,15,16,17] (qR [Qm 26 2,Ql 27 8 8,Ql 28 8 9,qa 29 (.call (.t 26) [.t 27,.t 28]),Qr 30 29] [1,2,15,16,17,30] (.cond (.t 30) (qR [Qf 6] [6] .ret) .skip))))) (qr [] [1,2,15,16,17])) (qr [Qu 31 .add 17 1,Qm 17 31] [1,2,15,16,17])))))) (qr [] []))) (qR [Qt 6] [6] .ret)))
theorem c213:FB 213 []=some (r213,s213):=by kernel_rfl
def r240:RL:=[(4,none)]
def s240:SCode:=qR [Qi 4 0] [0,1] (qs (qR [Qm 6 0,Qn 7 6,Qi 8 0] [0,1,7,8] (qs (.block 0 (.loop (qR [Qv 9 .lss 8 7] [0,1,7,8,9] (qs (qX 9) (qs (qs (.block 1 (qR [Qm 10 8,Qm 5 10] [0,1,5,7,8] (qR [Qm 11 1,Qm 12 0,Qm 13 5,Qx 14 1 12 13,Qo 15 14,qa 16 (.call (.t 11) [.t 15])] [0,1,5,7,8,16] Zh2))) (qr [] [0,1,7,8])) Zh3))))) (qr [] []))) Zh4)
theorem c240:FB 240 []=some (r240,s240):=by kernel_rfl
def r258:RL:=[(4,none)]
def s258:SCode:=qR [Qf 4] [0,1] (qR [Qm 5 0,Qm 6 1,Q2 7 303 5 6,Qu 8 .geq 7 0,Qm 4 8] [4] .ret)
theorem c258:FB 258 []=some (r258,s258):=by kernel_rfl
def r303:RL:=[(4,none)]
def s303:SCode:=qR [Qi 4 0] [0,1] (qs (qR [Qm 6 0,Qn 7 6,Qi 8 0] [0,1,7,8] (qs (.block 0 (.loop (qR [Qv 9 .lss 8 7] [0,1,7,8,9] (qs (qX 9) (qs (qs (.block 1 (qR [Qm 10 8,Qm 5 10] [0,1,5,7,8] (qR [Qm 11 1,Qm 12 0,Qm 13 5,Qx 14 4 12 13,Ql 15 4 14,qa 16 (.call (.t 11) [.t 15])] [0,1,5,7,8,16] Zh2))) (qr [] [0,1,7,8])) Zh3))))) (qr [] []))) Zh4)
theorem c303:FB 303 []=some (r303,s303):=by kernel_rfl
def r345:RL:=[(4,none)]
def s345:SCode:=qR [QB 2 29 8 0,Qf 4] [1,2] (qR [qa 5 (.build [.int .i64 0,.int .i64 0,.int .i64 0] []),Qa 6 0 2,QS 3 6 5,Qa 7 7 2,⟨none,none,.store 1 (.t 7) (.c .nil)⟩] [1,2] (qR [Qm 8 1,Qu 9 .geq 8 0,Qm 10 9,Bm 11 10 1,qb 12 10 (.bin .leq (.t 11) (qi 8)),Qp 13 10 12,Qm 14 13,qb 15 14 (lm 8 2),qb 16 14 (.call (.f 142) [.t 15]),qb 17 14 (.call (.f 9) [.t 16]),Qp 18 14 17,Qm 4 18] [4] .ret))
theorem c345:FB 345 []=some (r345,s345):=by kernel_rfl
def r423:RL:=[(2,none)]
def s423:SCode:=qR [Qb 1 25 0,Qf 2] [1] (qR [Ql 3 25 1,qa 4 (.call (.f 173) [.t 3,qi (-1)]),Qm 5 4,qb 6 5 (fa 22 1),qb 7 5 (lo 6),qb 8 5 (.call (.f 170) [.t 7,qi 0,qi 1048576]),Qp 9 5 8,Qm 2 9] [2] .ret)
theorem c423:FB 423 [2000001]=some (r423,s423):=by kernel_rfl
end Go.Av
