/-
  THE DATA: units, words, addresses, items, as plain Lean and as abstract cells.
-/
import Derived.Test.YtnoakpkjccigoaaGreatDoorProg
import Derived.Test.YtnoakpkjccigoaaGreatDoorRXAv21toXAv25
import Derived.Test.YtnoakpkjccigoaaGreatDoorRXAv26toXGlob
namespace Go.Av
open Go Go.RowKit List
set_option linter.unusedSimpArgs false
set_option linter.unusedVariables false
structure Idd where
 act:Int
 item:Int
 n:Int
 deriving DecidableEq,Inhabited
structure Wd where
 text:List UInt8
 act:Int
 item:Int
 at_:Int
 deriving DecidableEq,Inhabited
structure Stp where
 kind:Int
 label:List UInt8
 deriving DecidableEq,Inhabited
structure Sta where
 kind:Int
 day:Int
 event:List UInt8
 deriving DecidableEq,Inhabited
structure U where
 id:Idd
 kind:Int
 label:List UInt8
 head:List Wd
 words:List Wd
 kids:List U
 deriving Inhabited
structure Itm where
 kind:Int
 at_:List Stp
 to_:List Stp
 wh:Int
 nth:Int
 unit:U
 old:List (List UInt8)
 new:List (List UInt8)
 label:List UInt8
 for_:List UInt8
 start:Sta
 act:Int
 item:Int
 day:Int
 event:List UInt8
 by_:List Itm
 deriving Inhabited
structure Fnd where
 at_:Int
 id:Idd
 why:Int
 text:List UInt8
 deriving DecidableEq,Inhabited
def zU:List AV:=[.int .i64 0,.int .i64 0,.int .i64 0,.int .i64 0,.str [],.nil,.nil,.nil]
def zItm:List AV:=[.int .i64 0,.nil,.nil,.int .i64 0,.int .i64 0,.int .i64 0,.int .i64 0,.int .i64 0,.int .i64 0,.str [],.nil,.nil,.nil,.nil,.nil,.str [],.str [],.int .i64 0,.int .i64 0,.str [],.int .i64 0,.int .i64 0,.int .i64 0,.str [],.nil]
def srow (s:List UInt8):List AV:=[.str s]
def Wd.cs (w:Wd):List AV:=[.str w.text,.int .i64 w.act,.int .i64 w.item,.int .i64 w.at_]
def Stp.cs (s:Stp):List AV:=[.int .i64 s.kind,.str s.label]
def Idd.cs (i:Idd):List AV:=[.int .i64 i.act,.int .i64 i.item,.int .i64 i.n]
def Fnd.cs (f:Fnd):List AV:=[.int .i64 f.at_,.int .i64 f.id.act,.int .i64 f.id.item,.int .i64 f.id.n,.int .i64 f.why,.str f.text]
mutual
def U.cs:U->List AV
 |⟨i,k,l,h,w,ks⟩=>[.int .i64 i.act,.int .i64 i.item,.int .i64 i.n,.int .i64 k,.str l,.lst 4 (h.map Wd.cs),.lst 4 (w.map Wd.cs),.lst 8 (U.css ks)]
def U.css:List U->List (List AV)
 |[]=>[]
 |u::us=>U.cs u::U.css us
end
theorem U.css_map:∀us:List U,U.css us=us.map U.cs
 |[]=>rfl
 |u::us=>by rw[U.css,U.css_map us];rfl
theorem U.cs_eq (u:U):U.cs u=[.int .i64 u.id.act,.int .i64 u.id.item,.int .i64 u.id.n,.int .i64 u.kind,.str u.label,.lst 4 (u.head.map Wd.cs),.lst 4 (u.words.map Wd.cs),.lst 8 (u.kids.map U.cs)]:=by
 cases u
 simp only[U.cs,U.css_map]
mutual
def Itm.cs:Itm->List AV
 |⟨k,a,t,wh,n,u,o,w,l,f,s,ac,it,d,e,b⟩=>[.int .i64 k,.lst 2 (a.map Stp.cs),.lst 2 (t.map Stp.cs),.int .i64 wh,.int .i64 n,.int .i64 u.id.act,.int .i64 u.id.item,.int .i64 u.id.n,.int .i64 u.kind,.str u.label,.lst 4 (u.head.map Wd.cs),.lst 4 (u.words.map Wd.cs),.lst 8 (u.kids.map U.cs),
   .lst 1 (o.map srow),.lst 1 (w.map srow),.str l,.str f,.int .i64 s.kind,.int .i64 s.day,.str s.event,.int .i64 ac,.int .i64 it,.int .i64 d,.str e,.lst 25 (Itm.css b)]
def Itm.css:List Itm->List (List AV)
 |[]=>[]
 |u::us=>Itm.cs u::Itm.css us
end
theorem Itm.css_map:∀us:List Itm,Itm.css us=us.map Itm.cs
 |[]=>rfl
 |u::us=>by rw[Itm.css,Itm.css_map us];rfl
theorem Itm.cs_eq (x:Itm):Itm.cs x=[.int .i64 x.kind,.lst 2 (x.at_.map Stp.cs),.lst 2 (x.to_.map Stp.cs),.int .i64 x.wh,.int .i64 x.nth,.int .i64 x.unit.id.act,.int .i64 x.unit.id.item,.int .i64 x.unit.id.n,.int .i64 x.unit.kind,.str x.unit.label,.lst 4 (x.unit.head.map Wd.cs),.lst 4 (x.unit.words.map Wd.cs),.lst 8 (x.unit.kids.map U.cs),
   .lst 1 (x.old.map srow),.lst 1 (x.new.map srow),.str x.label,.str x.for_,.int .i64 x.start.kind,.int .i64 x.start.day,.str x.start.event,.int .i64 x.act,.int .i64 x.item,.int .i64 x.day,.str x.event,.lst 25 (x.by_.map Itm.cs)]:=by
 cases x
 simp only[Itm.cs,Itm.css_map]
theorem U.cs_len (u:U):u.cs.length=8:=by rw[U.cs_eq];rfl
theorem Itm.cs_len (u:Itm):u.cs.length=25:=by rw[Itm.cs_eq];rfl
/-! ### trees -/
theorem U.size_kid {u k:U} (h:k∈u.kids):SizeOf.sizeOf k<SizeOf.sizeOf u:=by
 have:=sizeOf_lt_of_mem h
 cases u
 simp at*
 omega
theorem U.ind {p:U->Prop} (h:∀u,(∀k∈u.kids,p k)->p u) (u:U):p u:=by
 have:∀n (u:U),SizeOf.sizeOf u<n->p u:=by
  intro n
  induction n with
  |zero=>intro u hu;omega
  |succ n ih=>exact λu hu=>h u λk hk=>ih k (by have:=U.size_kid hk;omega)
 exact this _ u (Nat.lt_succ_self _)
theorem Itm.size_by {u k:Itm} (h:k∈u.by_):SizeOf.sizeOf k<SizeOf.sizeOf u:=by
 have:=sizeOf_lt_of_mem h
 cases u
 simp at*
 omega
theorem Itm.ind {p:Itm->Prop} (h:∀u,(∀k∈u.by_,p k)->p u) (u:Itm):p u:=by
 have:∀n (u:Itm),SizeOf.sizeOf u<n->p u:=by
  intro n
  induction n with
  |zero=>intro u hu;omega
  |succ n ih=>exact λu hu=>h u λk hk=>ih k (by have:=Itm.size_by hk;omega)
 exact this _ u (Nat.lt_succ_self _)
mutual
def U.flat:U->List U
 |⟨i,k,l,h,w,ks⟩=>⟨i,k,l,h,w,ks⟩::U.flats ks
def U.flats:List U->List U
 |[]=>[]
 |u::us=>U.flat u++U.flats us
end
theorem U.flat_eq (u:U):u.flat=u::U.flats u.kids:=by cases u;rw[U.flat]
mutual
def U.deep:U->Nat
 |⟨_,_,_,_,_,ks⟩=>U.deeps ks
def U.deeps:List U->Nat
 |[]=>0
 |u::us=>max (1+U.deep u) (U.deeps us)
end
theorem U.deep_eq (u:U):u.deep=U.deeps u.kids:=by cases u;rw[U.deep]
mutual
def U.beq:U->U->Bool
 |⟨i,k,l,h,w,ks⟩,⟨i',k',l',h',w',ks'⟩=>decide (i=i')&&(decide (k=k')&&(decide (l=l')&&(decide (h=h')&&(decide (w=w')&&U.beqs ks ks'))))
def U.beqs:List U->List U->Bool
 |[],[]=>true
 |u::us,v::vs=>U.beq u v&&U.beqs us vs
 |_,_=>false
end
theorem U.beqs_iff_of {us:List U}:(∀k∈us,∀v,U.beq k v=true↔k=v)->∀vs,U.beqs us vs=true↔us=vs:=by
 induction us with
 |nil=>intro _ vs;cases vs<;>simp[U.beqs]
 |cons u us ih=>
  intro h vs
  cases vs with
  |nil=>simp[U.beqs]
  |cons v vs=>rw[U.beqs,Bool.and_eq_true,h u (by simp),ih (λk hk=>h k (by simp[hk]))];simp
theorem U.beq_iff:∀u v:U,U.beq u v=true↔u=v:=by
 refine U.ind λu ih v=>?_
 cases u;cases v
 simp only[U.beq,Bool.and_eq_true,decide_eq_true_eq,U.mk.injEq]
 rw[U.beqs_iff_of ih]
instance:DecidableEq U:=λu v=>if h:U.beq u v=true then isTrue ((U.beq_iff u v).1 h)else isFalse λe=>h ((U.beq_iff u v).2 e)
mutual
def Itm.beq:Itm->Itm->Bool
 |⟨k,a,t,wh,n,u,o,w,l,f,s,ac,it,d,e,b⟩,⟨k',a',t',wh',n',u',o',w',l',f',s',ac',it',d',e',b'⟩=>
  decide (k=k')&&(decide (a=a')&&(decide (t=t')&&(decide (wh=wh')&&(decide (n=n')&&(U.beq u u'&&(decide (o=o')&&(decide (w=w')&&(decide (l=l')&&(decide (f=f')&&(decide (s=s')&&
  (decide (ac=ac')&&(decide (it=it')&&(decide (d=d')&&(decide (e=e')&&Itm.beqs b b'))))))))))))))
def Itm.beqs:List Itm->List Itm->Bool
 |[],[]=>true
 |u::us,v::vs=>Itm.beq u v&&Itm.beqs us vs
 |_,_=>false
end
theorem Itm.beqs_iff_of {us:List Itm}:(∀k∈us,∀v,Itm.beq k v=true↔k=v)->∀vs,Itm.beqs us vs=true↔us=vs:=by
 induction us with
 |nil=>intro _ vs;cases vs<;>simp[Itm.beqs]
 |cons u us ih=>
  intro h vs
  cases vs with
  |nil=>simp[Itm.beqs]
  |cons v vs=>rw[Itm.beqs,Bool.and_eq_true,h u (by simp),ih (λk hk=>h k (by simp[hk]))];simp
theorem Itm.beq_iff:∀u v:Itm,Itm.beq u v=true↔u=v:=by
 refine Itm.ind λu ih v=>?_
 cases u;cases v
 simp only[Itm.beq,Bool.and_eq_true,decide_eq_true_eq,Itm.mk.injEq]
 rw[Itm.beqs_iff_of ih,U.beq_iff]
instance:DecidableEq Itm:=λu v=>if h:Itm.beq u v=true then isTrue ((Itm.beq_iff u v).1 h)else isFalse λe=>h ((Itm.beq_iff u v).2 e)
/-! ### loops over a list: what is left from i on -/
theorem nt {α:Type} {l:List α} {i:Nat} (h:l.drop i=[]) (hi:i<=l.length):i=l.length:=by
 have:=congrArg List.length h
 simp at this
 omega
structure Rest {α:Type} (l:List α) (i:Nat) (x:α) (r:List α):Prop where
 lt:i<l.length
 lt':(i:Int)<(l.length:Int)
 yes:decide ((i:Int)<(l.length:Int))=true
 le0:(0:Int)<=(i:Int)
 next:l.drop (i+1)=r
 get:∀d,l.getD i d=x
 row:∀{β:Type} (f:α->β) (d:β),(l.map f).getD i d=f x
 mem:x∈l
 le:i+1<=l.length
 step:l.length-(i+1)<l.length-i
 take:l.take (i+1)=l.take i++[x]
theorem gk {α:Type} {l:List α} {i:Nat} {x:α} {r:List α} (h:l.drop i=x::r):Rest l i x r:=by
 have hi:i<l.length:=by
  have:=congrArg List.length h
  simp at this
  omega
 have e:l.drop i=l[i]::l.drop (i+1):=drop_eq_getElem_cons hi
 rw[e]at h
 injection h with h1 h2
 refine⟨hi,by omega,by simpa using hi,by omega,h2,λd=>by simp[hi,h1],λf d=>by simp[hi,h1],h1 ▸ getElem_mem hi,hi,by omega,by rw[take_succ_eq_append_getElem hi,h1]⟩
theorem jE {i:Nat} (h:i<9223372036854775807):IntKind.i64.wrap ((i:Int)+1)=((i+1:Nat):Int):=by
 have:=IntWalk.i64_in ((i:Int)+1) ⟨by omega,by omega⟩
 rw[show((i+1:Nat):Int)=(i:Int)+1 from by omega]
 exact this
/-! ### rules for cells -/
theorem U.cs_drop (u:U) (n:Nat):u.cs.drop (n+1)=[AV.int .i64 u.id.item,.int .i64 u.id.n,.int .i64 u.kind,.str u.label,.lst 4 (u.head.map Wd.cs),.lst 4 (u.words.map Wd.cs),.lst 8 (u.kids.map U.cs)].drop n:=by rw[U.cs_eq];rfl
theorem U.cs_take (u:U):u.cs.take 8=u.cs:=by rw[U.cs_eq];rfl
theorem U.cs_take3 (u:U):u.cs.take 3=[AV.int .i64 u.id.act,.int .i64 u.id.item,.int .i64 u.id.n]:=by rw[U.cs_eq];rfl
theorem U.cs_head (u:U) (d:AV):u.cs.headD d= .int .i64 u.id.act:=by rw[U.cs_eq];rfl
theorem Itm.cs_drop (x:Itm) (n:Nat):x.cs.drop (n+1)=[AV.lst 2 (x.at_.map Stp.cs),.lst 2 (x.to_.map Stp.cs),.int .i64 x.wh,.int .i64 x.nth,.int .i64 x.unit.id.act,.int .i64 x.unit.id.item,.int .i64 x.unit.id.n,.int .i64 x.unit.kind,.str x.unit.label,.lst 4 (x.unit.head.map Wd.cs),.lst 4 (x.unit.words.map Wd.cs),.lst 8 (x.unit.kids.map U.cs),
   .lst 1 (x.old.map srow),.lst 1 (x.new.map srow),.str x.label,.str x.for_,.int .i64 x.start.kind,.int .i64 x.start.day,.str x.start.event,.int .i64 x.act,.int .i64 x.item,.int .i64 x.day,.str x.event,.lst 25 (x.by_.map Itm.cs)].drop n:=by rw[Itm.cs_eq];rfl
theorem Itm.cs_take (u:Itm):u.cs.take 25=u.cs:=by rw[Itm.cs_eq];rfl
theorem Itm.cs_head (u:Itm) (d:AV):u.cs.headD d= .int .i64 u.kind:=by rw[Itm.cs_eq];rfl
theorem U.cs_fold (u:U):[AV.int .i64 u.id.act,.int .i64 u.id.item,.int .i64 u.id.n,.int .i64 u.kind,.str u.label,.lst 4 (u.head.map Wd.cs),.lst 4 (u.words.map Wd.cs),.lst 8 (u.kids.map U.cs)]=u.cs:=(U.cs_eq u).symm
theorem wd_cs (w:Wd):w.cs=[.str w.text,.int .i64 w.act,.int .i64 w.item,.int .i64 w.at_]:=(rfl)
theorem stp_cs (s:Stp):s.cs=[.int .i64 s.kind,.str s.label]:=(rfl)
theorem idd_cs (i:Idd):i.cs=[.int .i64 i.act,.int .i64 i.item,.int .i64 i.n]:=(rfl)
theorem fnd_cs (f:Fnd):f.cs=[.int .i64 f.at_,.int .i64 f.id.act,.int .i64 f.id.item,.int .i64 f.id.n,.int .i64 f.why,.str f.text]:=(rfl)
theorem mc (s:List UInt8):srow s=[.str s]:=(rfl)
theorem zU_eq:zU=[.int .i64 0,.int .i64 0,.int .i64 0,.int .i64 0,.str [],.nil,.nil,.nil]:=(rfl)
theorem zItm_eq:zItm=[.int .i64 0,.nil,.nil,.int .i64 0,.int .i64 0,.int .i64 0,.int .i64 0,.int .i64 0,.int .i64 0,.str [],.nil,.nil,.nil,.nil,.nil,.str [],.str [],.int .i64 0,.int .i64 0,.str [],.int .i64 0,.int .i64 0,.int .i64 0,.str [],.nil]:=(rfl)
set_option linter.defProp false
def EV7:=AI (AI (AI U.cs_len Itm.cs_len) (AI U.cs_drop Itm.cs_drop)) (AI (AI (AI U.cs_take (AI U.cs_take3 U.cs_head)) (AI Itm.cs_take Itm.cs_head)) (AI (AI (AI wd_cs stp_cs) (AI idd_cs fnd_cs)) (AI (AI mc (AI zU_eq zItm_eq)) (AI (AI @List.length_map.{0,0} @Int.toNat_natCast) @List.append_nil.{0}))))
/-! ### walks: either order; a loop over a list -/
theorem ae {G:Glob} {P:Program} {a b:DT} {env:Env} {σ:Store} {K:Env->Store->Prop} {t:Tag K} (h1:TR G P a env σ K ⟨⟩) (h2:TR G P b env σ K ⟨⟩):TR G P (.both a b) env σ K t:=⟨h1,h2⟩
theorem af {G:Glob} {env:Env} {σ:Store} {K:Env->Store->Prop} (h:K env σ):∃env' σ',Weak G env σ env' σ'/\K env' σ':=⟨env,σ,Weak.rfl' _ _,h⟩
def LK {α ι:Type} (G:Glob) (l:List α) (ok:Nat->List α->ι->Prop) (st:Nat->ι->Env) (ss:Nat->ι->Store) (i:Nat):Env->Store->Prop:=
 λenv σ=>∃j:Nat×List α×ι,(l.drop j.1=j.2.1/\j.1<=l.length/\ok j.1 j.2.1 j.2.2)/\l.length-j.1<l.length-i/\Weak G env σ (st j.1 j.2.2) (ss j.1 j.2.2)
theorem ap {α ι:Type} {G:Glob} {l:List α} {ok:Nat->List α->ι->Prop} {st:Nat->ι->Env} {ss:Nat->ι->Store} {i:Nat} {x:α} {r:List α} {env:Env} {σ:Store} (hx:Rest l i x r) (c:ι) (h:ok (i+1) r c)
  (hw:Weak G env σ (st (i+1) c) (ss (i+1) c)):LK G l ok st ss i env σ:=⟨(i+1,r,c),⟨hx.next,hx.le,h⟩,hx.step,hw⟩
theorem ay {α ι:Type} {G:Glob} {P:Program} {a:SCode} {Q:Exit->Env->Store->Prop} {tQ:Tag Q} {env:Env} {σ:Store} (l:List α) (ok:Nat->List α->ι->Prop) (st:Nat->ι->Env) (ss:Nat->ι->Store) (c0:ι)
  (h0:ok 0 l c0) (hw:Weak G env σ (st 0 c0) (ss 0 c0)) (hl:l.length<9000000000000000000)
  (more:∀i x r c,ok i (x::r) c->Rest l i x r->IntKind.i64.wrap ((i:Int)+1)=((i+1:Nat):Int)->W G P a (NR (LK G l ok st ss i) Q ⟨⟩ ⟨⟩) (st i c) (ss i c) ⟨⟩)
  (fin:∀c,ok l.length [] c->decide ((l.length:Int)<(l.length:Int))=false->W G P a (NR (LK G l ok st ss l.length) Q ⟨⟩ ⟨⟩) (st l.length c) (ss l.length c) ⟨⟩):W G P (.loop a) Q env σ tQ:=by
 refine jf (ι:=Nat×List α×ι) (λj=>l.drop j.1=j.2.1/\j.1<=l.length/\ok j.1 j.2.1 j.2.2) (λj=>l.length-j.1) (λj=>st j.1 j.2.2) (λj=>ss j.1 j.2.2) (0,l,c0) ⟨rfl,Nat.zero_le _,h0⟩ hw ?_
 rintro⟨i,r,c⟩ ⟨h1,h2,h3⟩
 simp only at h1 h2 h3 ⊢
 cases r with
 |nil=>
  obtain rfl:=nt h1 h2
  exact fin c h3 (by simp)
 |cons x r=>
  have hx:=gk h1
  exact more i x r c h3 hx (jE (by have:=hx.lt;omega))
theorem keys_cons {k:Nat} {x:AObj} {σ:Store}:Store.keys ((k,x)::σ)=k::σ.keys:=rfl
theorem keys_nil:Store.keys []=[]:=rfl
def EVC:=(AI (AI (AI @List.all_cons.{0} (AI @List.all_nil.{0} @List.any_cons.{0})) (AI (AI @List.any_nil.{0} @Bool.not_false) (AI @Bool.not_true @Bool.false_and))) (AI (AI @Bool.and_false (AI @Bool.true_and @Bool.and_true)) (AI (AI @Bool.false_or @Bool.or_false) (AI @Bool.true_or @Bool.or_true))))
def EVB:=(AI (AI (AI (AI @Bool.and_eq_false_iff @Bool.or_eq_false_iff) (AI @beq_eq_false_iff_ne.{0} (AI @Bool.not_true @Bool.not_false))) (AI (AI @Bool.and_eq_true (AI @Bool.or_eq_true @decide_eq_true_eq)) (AI @decide_eq_false_iff_not (AI @beq_iff_eq.{0} @bne_iff_ne.{0})))) (AI (AI (AI @ne_eq.{1} @Bool.not_eq_true') (AI @Bool.not_eq_true (AI @Bool.not_eq_false @Bool.false_eq_true))) (AI (AI @Bool.true_eq_false (AI @false_iff @iff_false)) (AI @true_iff (AI @iff_true @Bool.not_eq_eq_eq_not)))))
def EVK:=(AI (AI (AI @keys_cons @keys_nil) (AI @List.mem_cons.{0} @List.not_mem_nil.{0})) (AI (AI @not_or @or_false) (AI @not_false_eq_true (AI @and_true @true_and))))
def EVz:=(AI (AI (AI EV1 EV2) (AI EV3 EV4)) (AI EV5 (AI @eq_self.{1} (AI @Option.map_some.{0,0} (AI @decide_true @decide_false)))))
end Go.Av
namespace Go.Av
open Go List
set_option linter.unusedSimpArgs false
set_option linter.unusedVariables false
abbrev qa (d:Nat) (x:SOp):SOper:=⟨some d,none,x⟩
abbrev qb (d g:Nat) (x:SOp):SOper:=⟨some d,some (g,true),x⟩
abbrev qc (d g:Nat) (x:SOp):SOper:=⟨some d,some (g,false),x⟩
abbrev qi (n:Int):SOpd:=.c (.int .i64 n)
abbrev qt:SOpd:=.c (.bool true)
abbrev qf:SOpd:=.c (.bool false)
abbrev qs (a b:SCode):SCode:=.seq a b
abbrev ql (x:SOpd):SOp:=.load false 1 x
abbrev mt (a:Nat):SOp:=.mov (.t a)
abbrev fa (a b:Nat):SOp:=.fieldA a (.t b)
abbrev lo (a:Nat):SOp:=ql (.t a)
abbrev lm (a b:Nat):SOp:=.load true a (.t b)
abbrev qr (a:List SOper) (b:List Nat):SCode:=.region a b
abbrev RL:=List (Nat×Option (Bool×Nat))
abbrev Qm (d:Nat) (a:Nat):SOper:=qa d (mt a)
abbrev Bm (d k:Nat) (a:Nat):SOper:=qb d k (mt a)
abbrev Ym (d k:Nat) (a:Nat):SOper:=qc d k (mt a)
abbrev Qo (d:Nat) (a:Nat):SOper:=qa d (lo a)
abbrev Qa (d:Nat) (a:Nat) (b:Nat):SOper:=qa d (fa a b)
abbrev Ql (d:Nat) (a:Nat) (b:Nat):SOper:=qa d (lm a b)
abbrev Qe (d:Nat) (a:Nat) (b:Nat):SOper:=qa d (.extract a (.t b))
abbrev Qb (d:Nat) (a:Nat) (b:Nat):SOper:=qa d (.boxR a (.t b))
abbrev QB (d:Nat) (a:Nat) (b:Nat) (c:Nat):SOper:=qa d (.box a b (.t c))
abbrev Qi (d:Nat) (m:Int):SOper:=qa d (.mov (qi m))
abbrev Qf (d:Nat):SOper:=qa d (.mov qf)
abbrev Qt (d:Nat):SOper:=qa d (.mov qt)
abbrev Qz (d:Nat):SOper:=qa d (.mov (.c .nil))
abbrev Qp (d:Nat) (a:Nat) (b:Nat):SOper:=qa d (.pick (.t a) (.t b) qf)
abbrev Qq (d:Nat) (a:Nat) (b:Nat):SOper:=qa d (.pick (.t a) qt (.t b))
abbrev Qn (d:Nat) (a:Nat):SOper:=qa d (.len (.t a))
abbrev QN (d:Nat) (a:Nat):SOper:=qa d (.lenS (.t a))
abbrev Qx (d:Nat) (a:Nat) (b:Nat) (c:Nat):SOper:=qa d (.indexA a (.t b) (.t c))
abbrev QU (d:Nat) (a:Nat):SOper:=qa d (.alloc a zU)
abbrev Qw (d:Nat) (a:Nat) (b:Nat) (c:Nat) (e:Nat) (f:Nat):SOper:=qa d (.append a b c (.t e) (.t f))
abbrev Qc (d:Nat) (a:Nat):SOper:=qa d (.nilCheck (.t a))
abbrev Qr (d:Nat) (a:Nat):SOper:=qa d (.not (.t a))
abbrev Qs (d:Nat) (a:Nat) (b:Nat):SOper:=qa d (.loadF true a (.t b))
abbrev Q0 (d:Nat) (a:Nat):SOper:=qa d (.call (.f a) [])
abbrev Q1 (d:Nat) (a:Nat) (b:Nat):SOper:=qa d (.call (.f a) [.t b])
abbrev Q2 (d:Nat) (a:Nat) (b:Nat) (c:Nat):SOper:=qa d (.call (.f a) [.t b,.t c])
abbrev Q3 (d:Nat) (a:Nat) (b:Nat) (c:Nat) (e:Nat):SOper:=qa d (.call (.f a) [.t b,.t c,.t e])
abbrev Q4 (d:Nat) (a:Nat) (b:Nat) (c:Nat) (e:Nat) (f:Nat):SOper:=qa d (.call (.f a) [.t b,.t c,.t e,.t f])
abbrev Q5 (d:Nat) (a:Nat) (b:Nat) (c:Nat) (e:Nat) (f:Nat) (g:Nat):SOper:=qa d (.call (.f a) [.t b,.t c,.t e,.t f,.t g])
abbrev Q6 (d:Nat) (a:Nat) (b:Nat) (c:Nat) (e:Nat) (f:Nat) (g:Nat) (h:Nat):SOper:=qa d (.call (.f a) [.t b,.t c,.t e,.t f,.t g,.t h])
abbrev Qu (d:Nat) (o:BinOp) (a:Nat) (m:Int):SOper:=qa d (.bin o (.t a) (qi m))
abbrev Qv (d:Nat) (o:BinOp) (a:Nat) (b:Nat):SOper:=qa d (.bin o (.t a) (.t b))
abbrev QA (d:Nat):SOper:=qa d (.build zU [])
abbrev QI (d:Nat) (a:Nat) (b:Nat):SOper:=qa d (.index (.t a) (.t b))
abbrev QS (a b c:Nat):SOper:=⟨none,none,.store a (.t b) (.t c)⟩
abbrev qR (a:List SOper) (b:List Nat) (c:SCode):SCode:=qs (qr a b) c
abbrev qX (a:Nat):SCode:=.cond (.t a) .skip (.exit 0)
abbrev qL (a:SCode):SCode:=.block 0 (.loop a)
noncomputable abbrev FB (k:Nat) (l:List Nat):=fnAt Proofs.Tryz.prog k l
abbrev Za9:SCode:=qR [Qt 4] [4] .ret
abbrev Za8:List SOper:=[Qb 1 8 0,Qf 2]
abbrev Za7:List AV:=[.int .i64 0,.int .i64 0,.int .i64 0]
abbrev Za6:SCode:=qR [Qf 4] [4] .ret
abbrev Za5:SCode:=qR [Qt 2] [2] .ret
abbrev Za4:SCode:=qR [Qm 6 0,Qn 7 6,Qm 8 1,Qn 9 8,Qv 10 .neq 7 9] [0,1,10] (.cond (.t 10) Za6 .skip)
abbrev Za3:List SOper:=[Qb 1 25 0,qa 2 (.alloc 52 zItm)]
abbrev Za2:SCode:=qR [Qf 2] [2] .ret
abbrev Za1:List AV:=[.sc .nilFunc,.sc .nilFunc]
abbrev Za0:DT:=.step (Qa 12 5 1) (.step (Q1 11 86 10) (.step (QS 1 12 8) (.step (Qa 13 6 1) (.step (QS 1 13 11) .done))))
def r9:RL:=[(4,none)]
def s9:SCode:=qR [Qb 2 8 0,Qf 4] [1,2] (qR [Ql 5 8 2,Qm 6 1,qa 7 (.call (.f 24) [.t 5,qi 0,.t 6]),Qm 8 1,Qv 9 .leq 7 8,Qm 10 9,qb 11 10 (lm 8 2),qb 12 10 (.call (.f 25) [.t 11]),Qp 13 10 12,Qm 4 13] [4] .ret)
theorem c9:FB 9 [2000002]=some (r9,s9):=by kernel_rfl
def r24:RL:=[(6,none)]
def s24:SCode:=qR [Qb 3 8 0,Qi 6 0] [1,2,3] (qs (qR [Qm 9 1,Qu 10 .gtr 9 20] [1,2,3,10] (.cond (.t 10) (qR [Qm 11 2,Qu 12 .add 11 1,Qm 6 12] [6] .ret) .skip)) (qR [Qi 7 1] [1,2,3,7] (qs (qR [Qi 8 0] [1,2,3,7,8] (qs (.block 0 (.loop (qs (qR [Qm 13 8,Qa 14 7 3,Qo 15 14,Qn 16 15,Qv 17 .lss 13 16,Qm 18 17,Bm 19 18 7,Bm 20 18 2,qb 21 18 (.bin .leq (.t 19) (.t 20)),Qp 22 18 21] [1,2,3,7,8,22] (qX 22)) (qs (qs (.block 1 (qr [Qm 25 7,Qa 26 7 3,Qo 27 26,Qm 28 8,Qx 29 8 27 28,Ql 30 8 29,Qm 31 1,Qu 32 .add 31 1,Qm 33 2,Qm 34 7,Qv 35 .sub 33 34,Q3 36 24 30 32 35,Qv 37 .add 25 36,Qm 7 37] [1,2,3,7,8])) (qr [] [1,2,3,7,8])) (qr [Qm 23 8,Qu 24 .add 23 1,Qm 8 24] [1,2,3,7,8]))))) (qr [] [7]))) (qR [Qm 38 7,Qm 6 38] [6] .ret))))
theorem c24:FB 24 [2000003]=some (r24,s24):=by kernel_rfl
def r42:RL:=[(4,none)]
def s42:SCode:=qR [Qf 4] [0,1] (qs Za4 (qs (qR [Qi 5 0] [0,1,5] (qs (.block 0 (.loop (qs (qR [Qm 11 5,Qm 12 0,Qn 13 12,Qv 14 .lss 11 13] [0,1,5,14] (qX 14)) (qs (qs (.block 1 (qs (.draw [Qm 17 0,Qm 18 5,Qx 19 4 17 18,Ql 20 4 19,Qm 21 1,Qm 22 5,Qx 23 4 21 22,Ql 24 4 23,qa 25 (.eqs true [2,1,1,1] (.t 20) (.t 24))] [0,1,5,25]) (.cond (.t 25) Za6 .skip))) (qr [] [0,1,5])) (qr [Qm 15 5,Qu 16 .add 15 1,Qm 5 16] [0,1,5]))))) (qr [] []))) Za9))
theorem c42:FB 42 []=some (r42,s42):=by kernel_rfl
def r48:RL:=[(2,none)]
def s48:SCode:=qR [Qf 2] [0] (qR [Qm 3 0,Qu 4 .geq 3 0,Qm 5 4,Bm 6 5 0,qb 7 5 (.bin .leq (.t 6) (qi 6)),Qp 8 5 7,Qm 2 8] [2] .ret)
theorem c48:FB 48 []=some (r48,s48):=by kernel_rfl
def r54:RL:=[(2,none)]
def s54:SCode:=qR Za8 [1] (qR [Ql 3 8 1,Q1 4 107 3,Qm 5 4,qb 6 5 (lm 8 1),qb 7 5 (.call (.f 108) [.t 6]),Qp 8 5 7,Qm 2 8] [2] .ret)
theorem c54:FB 54 [2000001]=some (r54,s54):=by kernel_rfl
def r78:RL:=[(2,none)]
def s78:SCode:=qR [Qf 2] [0] (qR [Qm 5 0,Q1 6 142 5,Qm 3 6] [0,3] (qs (qR [Qm 7 3,Qu 8 .lss 7 1,Qm 9 8,Ym 10 9 3,qc 11 9 (.bin .gtr (.t 10) (qi 4)),Qq 12 9 11,Qm 13 12,Ym 14 13 0,qc 15 13 (.index (.t 14) (qi 0)),qc 16 13 (.bin .eql (.t 15) (.c (.int .u8 48))),Qq 17 13 16,Qm 18 17,Ym 19 18 0,qc 20 18 (.lenS (.t 19)),Ym 21 18 3,qc 22 18 (.bin .sub (.t 20) (.t 21)),qc 23 18 (.bin .gtr (.t 22) (qi 3)),Qq 24 18 23] [0,3,24] (.cond (.t 24) Za2 .skip)) (qs (qR [Qm 25 3,Qm 4 25] [0,4] (qs (.block 0 (.loop (qs (qR [Qm 26 4,Qm 27 0,QN 28 27,Qv 29 .lss 26 28] [0,4,29] (qX 29)) (qs (qs (.block 1 (qR [Qm 32 0,Qm 33 4,QI 34 32 33,qa 35 (.bin .lss (.t 34) (.c (.int .u8 65))),Qm 36 35,Ym 37 36 0,Ym 38 36 4,qc 39 36 (.index (.t 37) (.t 38)),qc 40 36 (.bin .gtr (.t 39) (.c (.int .u8 90))),Qq 41 36 40] [0,4,41] (.cond (.t 41) Za2 .skip))) (qr [] [0,4])) (qr [Qm 30 4,Qu 31 .add 30 1,Qm 4 31] [0,4]))))) (qr [] []))) Za5)))
theorem c78:FB 78 []=some (r78,s78):=by kernel_rfl
def r81:RL:=[(2,none)]
def s81:SCode:=qR [Qf 2] [0] (qs (qR [Qm 4 0,QN 5 4,Qu 6 .lss 5 1,Qm 7 6,Ym 8 7 0,qc 9 7 (.lenS (.t 8)),qc 10 7 (.bin .gtr (.t 9) (qi 24)),Qq 11 7 10] [0,11] (.cond (.t 11) Za2 .skip)) (qs (qR [Qi 3 0] [0,3] (qs (.block 0 (.loop (qs (qR [Qm 12 3,Qm 13 0,QN 14 13,Qv 15 .lss 12 14] [0,3,15] (qX 15)) (qs (qs (.block 1 (qR [Qm 18 0,Qm 19 3,QI 20 18 19,qa 21 (.bin .lss (.t 20) (.c (.int .u8 33))),Qm 22 21,Ym 23 22 0,Ym 24 22 3,qc 25 22 (.index (.t 23) (.t 24)),qc 26 22 (.bin .gtr (.t 25) (.c (.int .u8 126))),Qq 27 22 26] [0,3,27] (.cond (.t 27) Za2 .skip))) (qr [] [0,3])) (qr [Qm 16 3,Qu 17 .add 16 1,Qm 3 17] [0,3]))))) (qr [] []))) Za5))
theorem c81:FB 81 []=some (r81,s81):=by kernel_rfl
def r84:RL:=[(2,some (true,8))]
def s84:SCode:=qR [QB 1 27 8 0,QU 2 27] [1,2] (qs (.drawT (.step (Qa 6 5 1) (.step (Qa 9 6 1) (.both (.step (Qo 7 6) (.both (.step (Q1 8 86 7) (.step (Qo 10 9) Za0)) (.step (Qo 10 9) (.step (Q1 8 86 7) Za0)))) (.step (Qo 10 9) (.step (Qo 7 6) (.step (Q1 8 86 7) Za0)))))) [1,2]) (qR [Qz 3] [1,2,3] (qs (qR [Qa 14 7 1,Qo 15 14,Qn 16 15,Qi 17 0] [1,2,3,15,16,17] (qs (.block 0 (.loop (qR [Qv 18 .lss 17 16] [1,2,3,15,16,17,18] (qs (qX 18) (qs (qs (.block 1 (qR [Qx 19 8 15 17,Ql 20 8 19,QU 5 27,QS 8 5 20] [1,2,3,5,15,16,17] (qr [Qm 21 3,Ql 22 8 5,Q1 23 84 22,qa 24 (.buildS 27 8 1 zU [(0,.t 23)]),qa 25 (.raw (.call (.mk (.builtin .append) #[.tmp 21,.tmp 24] #[25,25]))),Qm 3 25] [1,2,3,15,16,17]))) (qr [] [1,2,3,15,16,17])) (qr [Qu 26 .add 17 1,Qm 17 26] [1,2,3,15,16,17])))))) (qr [] [1,2,3]))) (qR [Qm 27 3,Qa 28 7 1,QS 1 28 27] [1,2] (qR [Ql 29 8 1,QS 8 2 29] [2] .ret)))))
theorem c84:FB 84 [3000025]=some (r84,s84):=by kernel_rfl
def r99:RL:=[(0,none)]
def s99:SCode:=qR [qa 0 (.mov (.c (.sc (.map none))))] [] (qR [qa 1 (.raw (.makeMap 144 none)),qa 2 (.build Za1 [(0,(1,.f 165)),(1,(1,.f 166))]),⟨none,none,.raw (.insert 144 (.tmp 1) (.const (.int .i64 0)) (.tmp 2))⟩,qa 3 (.build Za1 [(0,(1,.f 169)),(1,(1,.f 170))]),⟨none,none,.raw (.insert 144 (.tmp 1) (.const (.int .i64 1)) (.tmp 3))⟩,qa 4 (.build Za1 [(0,(1,.f 171)),(1,(1,.f 172))]),⟨none,none,.raw (.insert 144 (.tmp 1) (.const (.int .i64 2)) (.tmp 4))⟩,qa 5 (.build Za1 [(0,(1,.f 175)),(1,(1,.f 176))]),⟨none,none,.raw (.insert 144 (.tmp 1) (.const (.int .i64 3)) (.tmp 5))⟩,qa 6 (.build Za1 [(0,(1,.f 177)),(1,(1,.f 178))]),⟨none,none,.raw (.insert 144 (.tmp 1) (.const (.int .i64 4)) (.tmp 6))⟩,qa 7 (.build Za1 [(0,(1,.f 179)),(1,(1,.f 180))]),⟨none,none,.raw (.insert 144 (.tmp 1) (.const (.int .i64 5)) (.tmp 7))⟩,qa 8 (.build Za1 [(0,(1,.f 181)),(1,(1,.f 182))]),⟨none,none,.raw (.insert 144 (.tmp 1) (.const (.int .i64 6)) (.tmp 8))⟩,qa 9 (.load true 2 (.g 0)),⟨none,none,.raw (.insert 144 (.tmp 1) (.const (.int .i64 7)) (.tmp 9))⟩,qa 10 (.load true 2 (.g 0)),⟨none,none,.raw (.insert 144 (.tmp 1) (.const (.int .i64 8)) (.tmp 10))⟩,qa 11 (.load true 2 (.g 0)),⟨none,none,.raw (.insert 144 (.tmp 1) (.const (.int .i64 9)) (.tmp 11))⟩,qa 12 (.build Za1 [(0,(1,.f 183)),(1,(1,.f 184))]),⟨none,none,.raw (.insert 144 (.tmp 1) (.const (.int .i64 10)) (.tmp 12))⟩,qa 13 (.build Za1 [(0,(1,.f 186)),(1,(1,.f 187))]),⟨none,none,.raw (.insert 144 (.tmp 1) (.const (.int .i64 11)) (.tmp 13))⟩,Qm 14 1,Qm 0 14] [0] .ret)
theorem c99:FB 99 []=some (r99,s99):=by kernel_rfl
def r102:RL:=[(2,none)]
def s102:SCode:=qR [Qb 1 3 0,Qf 2] [1] (qs (qR [Qa 3 0 1,Qo 4 3] [1,4] (qs (.block 0 (qs (qR [Qu 6 .eql 4 0,Qm 5 6] [1,4,5] (.cond (.t 5) .skip (qr [Qu 7 .eql 4 2,Qm 5 7] [1,4,5]))) (.cond (.t 5) (qR [Qa 8 1 1,Qo 9 8,Qu 10 .eql 9 0,Qm 11 10,qb 12 11 (fa 2 1),qb 13 11 (lo 12),qb 14 11 (.bin .eql (.t 13) (.c (.str []))),Qp 15 11 14,Qm 2 15] [2] .ret) (qR [Qu 17 .eql 4 1,Qm 16 17] [1,4,16] (.cond (.t 16) (qR [Qa 18 1 1,Qo 19 18,qa 20 (.call (.f 185) [.t 19,qi 0,qi 1048576]),Qm 21 20,qb 22 21 (fa 2 1),qb 23 21 (lo 22),qb 24 21 (.bin .eql (.t 23) (.c (.str []))),Qp 25 21 24,Qm 2 25] [2] .ret) (qR [Qu 27 .eql 4 3,Qm 26 27] [1,26] (.cond (.t 26) (qR [Qa 28 1 1,Qo 29 28,Qu 30 .eql 29 0,Qm 31 30,qb 32 31 (fa 2 1),qb 33 31 (lo 32),qb 34 31 (.call (.f 101) [.t 33]),Qp 35 31 34,Qm 2 35] [2] .ret) .skip))))))) (qr [] []))) Za2)
theorem c102:FB 102 [2000001]=some (r102,s102):=by kernel_rfl
def r108:RL:=[(2,none)]
def s108:SCode:=qR Za8 [1] (qs (qR [Qa 4 3 1,Qo 5 4,Qu 6 .neq 5 0,Qm 7 6,qb 8 7 (fa 0 1),qb 9 7 (lm 3 8),qb 10 7 (.build Za7 []),qb 11 7 (.eqs false [1,1,1] (.t 9) (.t 10)),Qp 12 7 11] [1,12] (.cond (.t 12) Za2 .skip)) (qs (qR [Qi 3 0] [1,3] (qs (.block 0 (.loop (qs (qR [Qm 13 3,Qa 14 7 1,Qo 15 14,Qn 16 15,Qv 17 .lss 13 16] [1,3,17] (qX 17)) (qs (qs (.block 1 (qR [Qa 20 7 1,Qo 21 20,Qm 22 3,Qx 23 8 21 22,Ql 24 8 23,Q1 25 108 24,Qr 26 25] [1,3,26] (.cond (.t 26) Za2 .skip))) (qr [] [1,3])) (qr [Qm 18 3,Qu 19 .add 18 1,Qm 3 19] [1,3]))))) (qr [] []))) Za5))
theorem c108:FB 108 [2000001]=some (r108,s108):=by kernel_rfl
def r129:RL:=[(2,none)]
def s129:SCode:=qR [Qf 2] [0] (qR [Qm 7 0,Q1 8 217 7,Qm 6 8,Qe 9 0 6,Qe 10 1 6,Qm 3 9,Qm 4 10] [3,4] (qR [qa 5 (.mov (.f 218))] [3,4,5] (qR [Qm 11 3,QN 12 11,Qu 13 .geq 12 1,Qm 14 13,Bm 15 14 3,qb 16 14 (.lenS (.t 15)),qb 17 14 (.bin .leq (.t 16) (qi 4)),Qp 18 14 17,Qm 19 18,Bm 20 19 3,qb 21 19 (.index (.t 20) (qi 0)),qb 22 19 (.bin .neq (.t 21) (.c (.int .u8 48))),Qp 23 19 22,Qm 24 23,Bm 25 24 4,qb 26 24 (.lenS (.t 25)),qb 27 24 (.bin .leq (.t 26) (qi 3)),Qp 28 24 27,Qm 29 28,Bm 30 29 4,Bm 31 29 5,qb 32 29 (.call (.f 219) [.t 30,.t 31]),qb 33 29 (.not (.t 32)),Qp 34 29 33,Qm 2 34] [2] .ret)))
theorem c129:FB 129 []=some (r129,s129):=by kernel_rfl
def r138:RL:=[(2,none)]
def s138:SCode:=qR [Qb 1 8 0,Qi 2 0] [1] (qR [Qi 3 1] [1,3] (qs (qR [Qi 4 0] [1,3,4] (qs (.block 0 (.loop (qs (qR [Qm 5 4,Qa 6 7 1,Qo 7 6,Qn 8 7,Qv 9 .lss 5 8] [1,3,4,9] (qX 9)) (qs (qs (.block 1 (qr [Qm 12 3,Qa 13 7 1,Qo 14 13,Qm 15 4,Qx 16 8 14 15,Ql 17 8 16,Q1 18 138 17,Qv 19 .add 12 18,Qm 3 19] [1,3,4])) (qr [] [1,3,4])) (qr [Qm 10 4,Qu 11 .add 10 1,Qm 4 11] [1,3,4]))))) (qr [] [3]))) (qR [Qm 20 3,Qm 2 20] [2] .ret)))
theorem c138:FB 138 [2000001]=some (r138,s138):=by kernel_rfl
def r165:RL:=[(2,some (true,25))]
def s165:SCode:=qR Za3 [1,2] (qR [Qa 3 3 1,Qo 4 3,Qa 5 5 1,Ql 6 8 5,qa 7 (.build zItm [(3,(1,.t 4)),(5,(8,.t 6))]),QS 25 2 7] [2] .ret)
theorem c165:FB 165 [2000001]=some (r165,s165):=by kernel_rfl
def r168:RL:=[(2,none)]
def s168:SCode:=qR Za8 [1] (qR [Ql 6 8 1,Q1 7 248 6,Qm 5 7,Qe 8 0 5,Qe 9 1 5,Qm 3 8,Qm 4 9] [1,4] (qR [Ql 10 8 1,Q1 11 249 10,Qm 12 11,qb 13 12 (fa 3 1),qb 14 12 (lo 13),qb 15 12 (.bin .neq (.t 14) (qi 0)),Qp 16 12 15,Qm 17 16,Bm 18 17 4,qb 19 17 (.bin .eql (.t 18) (qi 0)),Qp 20 17 19,Qm 2 20] [2] .ret))
theorem c168:FB 168 [2000001]=some (r168,s168):=by kernel_rfl
def r171:RL:=[(2,some (true,25))]
def s171:SCode:=qR Za3 [1,2] (qR [Qa 3 13 1,Qo 4 3,Qa 5 14 1,Qo 6 5,Qa 7 4 1,Qo 8 7,qa 9 (.build zItm [(13,(1,.t 4)),(14,(1,.t 6)),(4,(1,.t 8))]),QS 25 2 9] [2] .ret)
theorem c171:FB 171 [2000001]=some (r171,s171):=by kernel_rfl
def r174:RL:=[(2,none)]
def s174:SCode:=qR [Qb 1 25 0,Qf 2] [1] (qR [Qa 3 4 1,Qo 4 3,qa 5 (.call (.f 185) [.t 4,qi 0,qi 256]),Qm 2 5] [2] .ret)
theorem c174:FB 174 [2000001]=some (r174,s174):=by kernel_rfl
def r177:RL:=[(2,some (true,25))]
def s177:SCode:=qR Za3 [1,2] (qR [Qa 3 14 1,Qo 4 3,qa 5 (.build zItm [(14,(1,.t 4))]),QS 25 2 5] [2] .ret)
theorem c177:FB 177 [2000001]=some (r177,s177):=by kernel_rfl
def r180:RL:=[(2,none)]
def s180:SCode:=qR [Qb 1 25 0,Qf 2] [1] (qR [Qa 3 15 1,Qo 4 3,Q1 5 129 4,Qm 2 5] [2] .ret)
theorem c180:FB 180 [2000001]=some (r180,s180):=by kernel_rfl
def r183:RL:=[(2,some (true,25))]
def s183:SCode:=qR Za3 [1,2] (qR [Qa 3 23 1,Qo 4 3,Qa 5 22 1,Qo 6 5,qa 7 (.build zItm [(23,(1,.t 4)),(22,(1,.t 6))]),QS 25 2 7] [2] .ret)
theorem c183:FB 183 [2000001]=some (r183,s183):=by kernel_rfl
def r186:RL:=[(2,some (true,25))]
def s186:SCode:=qR Za3 [1,2] (qR [Qa 3 20 1,Qo 4 3,Qa 5 21 1,Qo 6 5,Qa 7 24 1,Qo 8 7,qa 9 (.build zItm [(20,(1,.t 4)),(21,(1,.t 6)),(24,(1,.t 8))]),QS 25 2 9] [2] .ret)
theorem c186:FB 186 [2000001]=some (r186,s186):=by kernel_rfl
def r189:RL:=[(2,none)]
def s189:SCode:=qR [Qb 1 2 0,Qf 2] [1] (qR [Qa 3 0 1,Qo 4 3,Qu 5 .eql 4 0,Qm 6 5,qb 7 6 (fa 1 1),qb 8 6 (lo 7),qb 9 6 (.bin .eql (.t 8) (.c (.str []))),Qp 10 6 9,Qm 2 10] [2] .ret)
theorem c189:FB 189 [2000001]=some (r189,s189):=by kernel_rfl
def r192:RL:=[(4,none)]
def s192:SCode:=qR [Qf 4] [0,1] (qs Za4 (qs (qR [Qm 11 0,Qn 12 11,Qi 13 0] [0,1,12,13] (qs (.block 0 (.loop (qR [Qv 14 .lss 13 12] [0,1,12,13,14] (qs (qX 14) (qs (qs (.block 1 (qR [Qm 15 13,Qm 5 15] [0,1,5,12,13] (qs (.draw [Qm 16 0,Qm 17 5,Qx 18 1 16 17,Qo 19 18,Qm 20 1,Qm 21 5,Qx 22 1 20 21,Qo 23 22,Qv 24 .neq 19 23] [0,1,12,13,24]) (.cond (.t 24) Za6 .skip)))) (qr [] [0,1,12,13])) (qr [Qu 25 .add 13 1,Qm 13 25] [0,1,12,13])))))) (qr [] []))) Za9))
theorem c192:FB 192 []=some (r192,s192):=by kernel_rfl
def r198:RL:=[(2,none)]
def s198:SCode:=qR Za8 [1] (qR [Ql 8 8 1,Q1 9 56 8,Qm 3 9] [1,3] (qR [Qt 4] [1,3,4] (qs (qR [Qi 5 0] [1,3,4,5] (qs (.block 0 (.loop (qs (qR [Qm 10 5,Qm 11 3,Qn 12 11,Qv 13 .lss 10 12] [1,3,4,5,13] (qX 13)) (qs (qs (.block 1 (qr [Qm 16 4,Qm 17 16,Bm 18 17 3,Bm 19 17 5,qb 20 17 (.indexA 3 (.t 18) (.t 19)),qb 21 17 (lm 3 20),qb 22 17 (.build Za7 []),qb 23 17 (.eqs false [1,1,1] (.t 21) (.t 22)),Qp 24 17 23,Qm 4 24] [1,3,4,5])) (qr [] [1,3,4,5])) (qr [Qm 14 5,Qu 15 .add 14 1,Qm 5 15] [1,3,4,5]))))) (qr [] [1,3,4]))) (qs (qR [Qm 25 4] [1,3,25] (.cond (.t 25) Za5 .skip)) (qs (qs (.drawL [Qm 26 3,qa 27 (.indexA 3 (.t 26) (qi 0)),qa 29 (.build Za7 []),Qa 31 3 1,qa 32 (.loadF false 1 (.t 31)),Qu 33 .eql 32 0,Ql 28 3 27,qa 30 (.eqs false [1,1,1] (.t 28) (.t 29)),qa 34 (.eqb true (.t 30) (.t 33))] [3,34]) (.cond (.t 34) Za2 .skip)) (qs (qR [Qi 6 0] [3,6] (qs (.block 2 (.loop (qs (qR [Qm 35 6,Qm 36 3,Qn 37 36,Qv 38 .lss 35 37] [3,6,38] (.cond (.t 38) .skip (.exit 2))) (qs (qs (.block 3 (qR [Qi 7 0] [3,6,7] (qs (.block 4 (.loop (qs (qR [Qm 41 7,Qm 42 6,Qv 43 .lss 41 42] [3,6,7,43] (.cond (.t 43) .skip (.exit 4))) (qs (qs (.block 5 (qs (.draw [Qm 46 3,Qm 47 7,Qx 48 3 46 47,Ql 49 3 48,Qm 50 3,Qm 51 6,Qx 52 3 50 51,Ql 53 3 52,qa 54 (.eqs false [1,1,1] (.t 49) (.t 53))] [3,6,7,54]) (.cond (.t 54) Za2 .skip))) (qr [] [3,6,7])) (qr [Qm 44 7,Qu 45 .add 44 1,Qm 7 45] [3,6,7]))))) (qr [] [3,6])))) (qr [] [3,6])) (qr [Qm 39 6,Qu 40 .add 39 1,Qm 6 40] [3,6]))))) (qr [] []))) Za5))))))
theorem c198:FB 198 [2000001]=some (r198,s198):=by kernel_rfl
def r213:RL:=[(4,none)]
def s213:SCode:=qR [Qf 4] [0,1] (qR [Qm 5 0,Qm 6 1,Q2 7 266 5 6,Qu 8 .geq 7 0,Qm 4 8] [4] .ret)
theorem c213:FB 213 []=some (r213,s213):=by kernel_rfl
def r225:RL:=[(4,none)]
def s225:SCode:=qR [Qf 4] [0,1] (qR [Qm 5 0,Qm 6 1,Q2 7 272 5 6,Qu 8 .geq 7 0,Qm 4 8] [4] .ret)
theorem c225:FB 225 []=some (r225,s225):=by kernel_rfl
def r237:RL:=[(4,none)]
def s237:SCode:=qR [Qb 2 8 0,Qf 4] [1,2] (qs (qR [Qm 7 1,Ql 8 8 2,qa 9 (.call (.t 7) [.t 8]),Qr 10 9] [1,2,10] (.cond (.t 10) Za6 .skip)) (qs (qR [Qa 11 7 2,Qo 12 11,Qn 13 12,Qi 14 0] [1,12,13,14] (qs (.block 0 (.loop (qR [Qv 15 .lss 14 13] [1,12,13,14,15] (qs (qX 15) (qs (qs (.block 1 (qR [Qx 16 8 12 14,Ql 17 8 16,QU 6 27,QS 8 6 17] [1,6,12,13,14] (qR [Ql 18 8 6,Qm 19 1,Q2 20 237 18 19,Qr 21 20] [1,12,13,14,21] (.cond (.t 21) Za6 .skip)))) (qr [] [1,12,13,14])) (qr [Qu 22 .add 14 1,Qm 14 22] [1,12,13,14])))))) (qr [] []))) Za9))
theorem c237:FB 237 [2000002]=some (r237,s237):=by kernel_rfl
def r249:RL:=[(2,none)]
def s249:SCode:=qR Za8 [1] (qR [Ql 3 8 1,Q1 4 200 3,Qm 5 4,qb 6 5 (lm 8 1),qb 7 5 (.call (.f 237) [.t 6,.f 280]),Qp 8 5 7,Qm 2 8] [2] .ret)
theorem c249:FB 249 [2000001]=some (r249,s249):=by kernel_rfl
def r258:RL:=[(6,none)]
def s258:SCode:=qR [Qf 6] [0,1,2] (qs (qR [Qm 10 0,Qn 11 10,Qm 12 1,Qn 13 12,Qv 14 .neq 11 13] [0,1,2,14] (.cond (.t 14) (qR [Qf 6] [6] .ret) .skip)) (qs (qR [Qm 15 0,Qn 16 15,Qi 17 0] [1,2,15,16,17] (qs (.block 0 (.loop (qR [Qv 18 .lss 17 16] [1,2,15,16,17,18] (qs (qX 18) (qs (qs (.block 1 (qR [Qm 19 17,Qx 20 8 15 17,Ql 21 8 20,QU 8 27,Qm 7 19,QS 8 8 21] [1,2,7,8,15,16,17] (qR [Qm 22 1,Qm 23 7,Qx 24 8 22 23,Ql 25 8 24,QU 9 27,QS 8 9 25] [1,2,8,9,15,16,17] (qR [Qm 26 2,Ql 27 8 8,Ql 28 8 9,qa 29 (.call (.t 26) [.t 27,.t 28]),Qr 30 29] [1,2,15,16,17,30] (.cond (.t 30) (qR [Qf 6] [6] .ret) .skip))))) (qr [] [1,2,15,16,17])) (qr [Qu 31 .add 17 1,Qm 17 31] [1,2,15,16,17])))))) (qr [] []))) (qR [Qt 6] [6] .ret)))
theorem c258:FB 258 []=some (r258,s258):=by kernel_rfl
def r264:RL:=[(2,none)]
def s264:SCode:=qR Za8 [1] (qs (qR [Qa 7 3 1,Qo 8 7,Qu 9 .eql 8 0] [1,9] (.cond (.t 9) (qR [Qa 10 4 1,Qo 11 10,qa 12 (.bin .neq (.t 11) (.c (.str []))),Qm 13 12,qc 14 13 (fa 5 1),qc 15 13 (lo 14),qc 16 13 (.len (.t 15)),qc 17 13 (fa 6 1),qc 18 13 (lo 17),qc 19 13 (.len (.t 18)),qc 20 13 (.bin .add (.t 16) (.t 19)),qc 21 13 (.bin .gtr (.t 20) (qi 0)),Qq 22 13 21] [1,22] (.cond (.t 22) Za2 .skip)) (qR [Qa 23 3 1,Qo 24 23,Q1 25 292 24,qa 26 (.bin .eql (.t 25) (.c (.str []))),Qm 27 26,qc 28 27 (fa 4 1),qc 29 27 (lo 28),qc 30 27 (.call (.f 129) [.t 29]),qc 31 27 (.not (.t 30)),Qq 32 27 31,Qm 33 32,qc 34 33 (fa 5 1),qc 35 33 (lo 34),qc 36 33 (.call (.f 293) [.t 35]),qc 37 33 (.not (.t 36)),Qq 38 33 37,Qm 39 38,qc 40 39 (fa 6 1),qc 41 39 (lo 40),qc 42 39 (.call (.f 293) [.t 41]),qc 43 39 (.not (.t 42)),Qq 44 39 43] [1,44] (.cond (.t 44) Za2 .skip)))) (qR [qa 45 (.raw (.makeMap 264 none)),Qm 3 45] [1,3] (qs (qR [Qa 46 7 1,Qo 47 46,Qn 48 47,Qi 49 0] [1,3,47,48,49] (qs (.block 0 (.loop (qR [Qv 50 .lss 49 48] [1,3,47,48,49,50] (qs (qX 50) (qs (qs (.block 1 (qR [Qx 51 8 47 49,Ql 52 8 51,QU 5 27,QS 8 5 52] [1,3,5,47,48,49] (qR [Qa 53 3 5,Qo 54 53,Qa 55 4 5,Qo 56 55,qa 57 (.build [.int .i64 0,.str []] [(0,(1,.t 54)),(1,(1,.t 56))]),qa 6 (.alloc 266 [.int .i64 0,.str []]),QS 2 6 57] [1,3,5,6,47,48,49] (qs (qR [Qa 58 3 1,Qo 59 58,Qa 60 3 5,Qo 61 60,Q2 62 122 59 61,Qr 63 62,Qm 64 63,Ym 65 64 3,qc 66 64 (lm 2 6),qc 67 64 (.raw (.lookup 264 (.tmp 65) (.tmp 66) false)),Qq 68 64 67] [1,3,6,47,48,49,68] (.cond (.t 68) Za2 .skip)) (qr [Qm 69 3,Ql 70 2 6,⟨none,none,.raw (.mapUpdate 264 (.tmp 69) (.tmp 70) (.const (.bool true)))⟩] [1,3,47,48,49]))))) (qr [] [1,3,47,48,49])) (qr [Qu 71 .add 49 1,Qm 49 71] [1,3,47,48,49])))))) (qr [] [1]))) (qR [Qa 72 7 1,Qo 73 72,Qn 74 73,Qu 75 .leq 74 64,Qm 2 75] [2] .ret))))
theorem c264:FB 264 [2000001]=some (r264,s264):=by kernel_rfl
def r270:RL:=[(2,none)]
def s270:SCode:=qR [Qf 2] [0] (qR [Qm 3 0,Q1 4 271 3,Qr 5 4,Qm 2 5] [2] .ret)
theorem c270:FB 270 []=some (r270,s270):=by kernel_rfl
def r291:RL:=[(2,none)]
def s291:SCode:=qR [Qf 2] [0] (qR [Qm 3 0,Qn 4 3,Qu 5 .leq 4 256,Qm 6 5,Bm 7 6 0,qb 8 6 (.call (.f 317) [.t 7]),qb 9 6 (.call (.f 316) [.t 8]),Qp 10 6 9,Qm 2 10] [2] .ret)
theorem c291:FB 291 []=some (r291,s291):=by kernel_rfl
def r297:RL:=[(4,none)]
def s297:SCode:=qR [Qf 4] [0,1] (qR [Qm 5 0,Qm 6 1,Q2 7 318 5 6,Qu 8 .geq 7 0,Qm 4 8] [4] .ret)
theorem c297:FB 297 []=some (r297,s297):=by kernel_rfl
def r309:RL:=[(4,none)]
def s309:SCode:=qR [Qb 2 8 0,qa 4 (.mov (.c (.str [])))] [1,2] (qs (qR [Ql 6 8 2,Qm 7 1,Q2 8 319 6 7,Qr 9 8] [1,2,9] (.cond (.t 9) (qR [qa 4 (.mov (.c (.str [])))] [4] .ret) .skip)) (qs (.drawL [Qm 10 1,Qa 12 3 2,qa 13 (.loadF false 1 (.t 12)),qa 11 (.call (.f 320) [.c (.str [32,32]),.t 10]),Q1 14 292 13,Qv 15 .add 11 14,Qm 5 15] [2,5]) (qs (qR [Qa 16 3 2,Qo 17 16,Qu 18 .neq 17 0] [2,5,18] (.cond (.t 18) (qr [Qm 19 5,Qa 20 4 2,Qo 21 20,qa 22 (.bin .add (.c (.str [32])) (.t 21)),Qv 23 .add 19 22,Qm 5 23] [2,5]) .skip)) (qs (qR [Qa 24 5 2,Qo 25 24,Qn 26 25,Qu 27 .gtr 26 0] [2,5,27] (.cond (.t 27) (qr [Qm 28 5,qa 29 (.bin .add (.t 28) (.c (.str [58]))),Qa 30 5 2,Qo 31 30,Q2 32 321 29 31,Qm 5 32] [2,5]) .skip)) (qs (qR [Qa 33 6 2,Qo 34 33,Qn 35 34,Qu 36 .gtr 35 0] [2,5,36] (.cond (.t 36) (qr [Qm 37 5,qa 38 (.bin .add (.t 37) (.c (.str [32,124]))),Qa 39 6 2,Qo 40 39,Q2 41 321 38 40,Qm 5 41] [5]) .skip)) (qR [Qm 42 5,Qm 4 42] [4] .ret))))))
theorem c309:FB 309 [2000002]=some (r309,s309):=by kernel_rfl
def r318:RL:=[(4,none)]
def s318:SCode:=qR [Qi 4 0] [0,1] (qs (qR [Qm 6 0,Qn 7 6,Qi 8 0] [0,1,7,8] (qs (.block 0 (.loop (qR [Qv 9 .lss 8 7] [0,1,7,8,9] (qs (qX 9) (qs (qs (.block 1 (qR [Qm 10 8,Qm 5 10] [0,1,5,7,8] (qR [Qm 11 1,Qm 12 0,Qm 13 5,Qx 14 1 12 13,Qo 15 14,qa 16 (.call (.t 11) [.t 15])] [0,1,5,7,8,16] (.cond (.t 16) (qR [Qm 17 5,Qm 4 17] [4] .ret) .skip)))) (qr [] [0,1,7,8])) (qr [Qu 18 .add 8 1,Qm 8 18] [0,1,7,8])))))) (qr [] []))) (qR [Qi 4 (-1)] [4] .ret))
theorem c318:FB 318 []=some (r318,s318):=by kernel_rfl
def r321:RL:=[(4,none)]
def s321:SCode:=qR [qa 4 (.mov (.c (.str [])))] [0,1] (qs (qR [Qm 7 1,Qn 8 7,Qi 9 0] [0,7,8,9] (qs (.block 0 (.loop (qR [Qv 10 .lss 9 8] [0,7,8,9,10] (qs (qX 10) (qs (qs (.block 1 (qR [Qx 11 4 7 9,Ql 12 4 11,qa 6 (.alloc 33 [.str [],.int .i64 0,.int .i64 0,.int .i64 0]),QS 4 6 12] [0,6,7,8,9] (qR [Qm 13 0,qa 14 (.bin .add (.t 13) (.c (.str [32]))),Qm 0 14] [0,6,7,8,9] (qs (qR [Qa 15 0 6,Qo 16 15,qa 17 (.index (.t 16) (qi 0)),qa 18 (.bin .eql (.t 17) (.c (.int .u8 124))),Qm 19 18,qc 20 19 (fa 0 6),qc 21 19 (lo 20),qc 22 19 (.index (.t 21) (qi 0)),qc 23 19 (.bin .eql (.t 22) (.c (.int .u8 92))),Qq 24 19 23] [0,6,7,8,9,24] (.cond (.t 24) (qr [Qm 25 0,qa 26 (.bin .add (.t 25) (.c (.str [92]))),Qm 0 26] [0,6,7,8,9]) .skip)) (qr [Qm 27 0,Qa 28 0 6,Qo 29 28,Qv 30 .add 27 29,Qm 0 30] [0,7,8,9]))))) (qr [] [0,7,8,9])) (qr [Qu 31 .add 9 1,Qm 9 31] [0,7,8,9])))))) (qr [] [0]))) (qR [Qm 32 0,Qm 4 32] [4] .ret))
theorem c321:FB 321 []=some (r321,s321):=by kernel_rfl
def r354:RL:=[(2,none)]
def s354:SCode:=qR [Qb 1 25 0,Qf 2] [1] (qR [Ql 3 25 1,qa 4 (.call (.f 188) [.t 3,qi (-1)]),Qm 5 4,qb 6 5 (fa 22 1),qb 7 5 (lo 6),qb 8 5 (.call (.f 185) [.t 7,qi 0,qi 1048576]),Qp 9 5 8,Qm 2 9] [2] .ret)
theorem c354:FB 354 [2000001]=some (r354,s354):=by kernel_rfl
end Go.Av
