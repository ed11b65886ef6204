/-
  WHAT THE PROGRAM'S OWN VARIABLES HOLD, as abstract cells: out of the data that a row lists.
-/
import Derived.Test.YtnoakpkjccigoaaGreatDoorProg
import Derived.Test.YtnoakpkjccigoaaGreatDoorXAv26toXOpenG
import Derived.OpenShut
import Derived.LaidMore
import Derived.LaidHandle
import Derived.Lib.LaidU8
import Derived.Test.YtnoakpkjccigoaaGreatDoorXAv21toXAv25
namespace Go.Av
open Go Go.RowKit List
set_option linter.unusedSimpArgs false
set_option linter.unusedVariables false
def gG {α β:Type} (f:α->Option β):List α->Option (List β)
 |[]=>some []
 |x::xs=>match f x,gG f xs with
  |some y,some ys=>some (y::ys)
  |_,_=>none
theorem gf {α β:Type} {f:α->Option β}:∀{xs:List α} {ys:List β},gG f xs=some ys->ys.length=xs.length/\∀(i:Nat) (x:α),xs[i]? =some x->∃y,ys[i]? =some y/\f x=some y
 |[],ys,h=>by simp only[gG,Option.some.injEq]at h;subst h;exact⟨rfl,λi x hx=>by simp at hx⟩
 |x::xs,ys,h=>by
  simp only[gG]at h
  split at h
  ·rename_i y ys' h1 h2
   simp only[Option.some.injEq]at h
   subst h
   obtain⟨l,g⟩:=gf h2
   refine⟨by simp[l],λi z hz=>?_⟩
   cases i with
   |zero=>simp only[getElem?_cons_zero,Option.some.injEq]at hz;subst hz;exact⟨y,rfl,h1⟩
   |succ i=>simpa using g i z (by simpa using hz)
  ·cases h
def avD (P:Program):Nat->TypeId->DataW Unit->Option (List AV)
 |0,_,_=>none
 |n+1,t,d=>
  match P.underlying t,d with
  |some .bool,.lit (.bool b)=>some [.bool b]
  |some (.int k),.lit (.int k' z)=>if k=k' then some [.int k z]else none
  |some .string,.lit (.string s)=>some [.str s]
  |some (.slice _),.nil=>some [.nil]
  |some (.slice e),.slice ds _=>(gG (avD P n e) ds).map λrows=>[.lst (P.cellsOf e) rows]
  |some (.array m e),.agg ds=>if P.cellsOf t=m*P.cellsOf e then (gG (avD P n e) ds).map List.flatten else none
  |_,_=>none
def kJ (w:World) (avs:List AV) (cs:List Value):Prop:=RepL [] w avs cs/\∀v∈cs,v.oneCell'=true
theorem chunks {w:World} {sz:Nat}:∀(rows:List (List AV)) (cs:List Value),cs.length=rows.length*sz->(∀(i:Nat) (r:List AV),rows[i]? =some r->kJ w r ((cs.drop (i*sz)).take sz))->kJ w rows.flatten cs
 |[],cs,hl,_=>by
  have:cs=[]:=eq_nil_of_length_eq_zero (by simpa using hl)
  subst this
  exact⟨by simp[RepL],by simp⟩
 |r::rows,cs,hl,h=>by
  have h0:=h 0 r rfl
  simp only[Nat.zero_mul,drop_zero]at h0
  have hl2:cs.length=rows.length*sz+sz:=by rw[hl,length_cons,Nat.add_mul];omega
  have ih:=chunks (sz:=sz) rows (cs.drop sz) (by rw[length_drop,hl2];omega) λi q hq=>by
   have:=h (i+1) q (by simpa using hq)
   rw[drop_drop,show sz+i*sz=(i+1)*sz by rw[Nat.add_mul];omega]
   exact this
  refine⟨?_,?_⟩
  ·rw[flatten_cons,←take_append_drop sz cs]
   exact RepL.append h0.1 ih.1
  ·intro v hv
   rw[←take_append_drop sz cs]at hv
   rcases mem_append.1 hv with hv|hv
   ·exact h0.2 v hv
   ·exact ih.2 v hv
theorem mE {enc:TypeId×Value->Unit} {P:Program} {w:World} {sp:Nat->Bool} {held:Bool}:∀(n:Nat) (t:TypeId) (d:DataW Unit) (avs:List AV),avD P n t d=some avs->∀(fuel:Nat) (cs:List Value) (ps:List MemPlace),
  DataW.trod enc P w 0 sp held fuel t cs=some (d,ps)->kJ w avs cs
 |0,t,d,avs,h,_,_,_,_=>by simp[avD]at h
 |n+1,t,d,avs,h,fuel,cs,ps,ht=>by
  simp only[avD]at h
  split at h
  ·rename_i b hu
   have:∃b',cs=[.bool b']/\b'=b:=by
    cases fuel with
    |zero=>simp[DataW.trod]at ht
    |succ m=>
     unfold DataW.trod at ht
     rw[hu]at ht
     split at ht<;>simp_all
   obtain⟨_,rfl,rfl⟩:=this
   simp only[Option.some.injEq]at h
   subst h
   exact⟨by simp only[RepL,Rep];exact⟨_,_,rfl,rfl,rfl⟩,by simp[Value.oneCell']⟩
  ·rename_i k k' z hu
   split at h
   ·rename_i hk
    subst hk
    simp only[Option.some.injEq]at h
    subst h
    obtain⟨z',rfl,hx,_⟩:=DataW.trod_int hu ht
    simp only[Prod.mk.injEq,DataW.lit.injEq,Lit.int.injEq,true_and]at hx
    rw[hx.1]
    exact⟨by simp only[RepL,Rep];exact⟨_,_,rfl,rfl,rfl⟩,by simp[Value.oneCell']⟩
   ·cases h
  ·rename_i s hu
   simp only[Option.some.injEq]at h
   subst h
   obtain⟨s',rfl,hx,_⟩:=DataW.trod_string hu ht
   simp only[Prod.mk.injEq,DataW.lit.injEq,Lit.string.injEq]at hx
   rw[hx.1]
   exact⟨by simp only[RepL,Rep];exact⟨_,_,rfl,by simp,rfl⟩,by simp[Value.oneCell']⟩
  ·rename_i e hu
   simp only[Option.some.injEq]at h
   subst h
   rcases DataW.trod_slice hu ht with⟨rfl,_⟩|⟨a,len,cap,elems,rest,m,hn,rfl,hx,hb,hl,hm,hel,hxx,_,_⟩
   ·exact⟨by simp only[RepL,Rep];exact⟨_,_,rfl,rfl,rfl⟩,by simp[Value.oneCell']⟩
   ·simp at hx
  ·rename_i e ds rest0 hu
   obtain⟨rows,hr,rfl⟩:=Option.map_eq_some_iff.1 h
   obtain⟨hrl,hrg⟩:=gf hr
   rcases DataW.trod_slice hu ht with⟨rfl,hx⟩|⟨a,len,cap,elems,rest,m,hn,rfl,hx,hb,hl,hm,hel,hxx,_,_⟩
   ·simp at hx
   ·simp only[Prod.mk.injEq,DataW.slice.injEq]at hx
    obtain⟨⟨hds,_⟩,_⟩:=hx
    have hlen:rows.length=len:=by rw[hrl,hds,length_map,hel]
    refine⟨?_,by simp[Value.oneCell']⟩
    simp only[RepL]
    refine⟨_,_,rfl,?_,rfl⟩
    simp only[Rep]
    right
    refine⟨a,cap,by rw[hlen],by rw[hlen];exact hl,hm,ar.of_get λj hj=>?_⟩
    have hj1:j<elems.length:=by omega
    have h1:=hxx j (by omega)
    rw[getElem?_eq_getElem hj1]at h1
    obtain⟨cs',k1,k2⟩:=Option.bind_eq_some_iff.1 h1
    obtain⟨y,hy1,hy2⟩:=hrg j (elems[j]).1 (by rw[hds,getElem?_map,getElem?_eq_getElem hj1];rfl)
    rw[getElem?_eq_getElem hj,Option.some.injEq]at hy1
    rw[hy1]
    obtain⟨q3,q4⟩:=mE n e _ y hy2 m cs' (elems[j]).2 k2
    obtain⟨g1,g2⟩:=lz k1
    have hal:=q3.length
    rw[Nat.zero_add]
    refine⟨by omega,RepAt.of_get λi hi=>?_⟩
    have hi2:i<cs'.length:=by omega
    refine⟨cs'[i],fy ?_,q4 _ (getElem_mem hi2),q3.get i hi hi2⟩
    rw[←iD]
    exact g2 i hi2
  ·rename_i m e ds hu
   split at h
   rotate_left
   ·cases h
   rename_i hct
   obtain⟨rows,hr,rfl⟩:=Option.map_eq_some_iff.1 h
   obtain⟨hrl,hrg⟩:=gf hr
   obtain⟨xs,m',hn,hx,hl,hxl,hxs⟩:=DataW.trod_array hu ht
   simp only[Prod.mk.injEq,DataW.agg.injEq]at hx
   obtain⟨hds,_⟩:=hx
   have hlen:rows.length=m:=by rw[hrl,hds,length_map,hxl]
   have hch:∀(i:Nat) (r:List AV),rows[i]? =some r->kJ w r ((cs.drop (i*P.cellsOf e)).take (P.cellsOf e)):=by
    intro i r hir
    have hi:i<rows.length:=(List.getElem?_eq_some_iff.1 hir).1
    have hj1:i<xs.length:=by omega
    have h1:=hxs i (by omega)
    rw[getElem?_eq_getElem hj1]at h1
    obtain⟨y,hy1,hy2⟩:=hrg i (xs[i]).1 (by rw[hds,getElem?_map,getElem?_eq_getElem hj1];rfl)
    rw[hir,Option.some.injEq]at hy1
    subst hy1
    exact mE n e _ _ hy2 m' _ (xs[i]).2 h1
   exact chunks rows cs (by rw[hl,hct,hlen]) hch
  ·cases h
theorem l0 {P:Program} {w:World} {nm:String} {g:Nat} {cs:Array Value} {avs:List AV} (hg:P.globalNamed nm=some g) (hv:w.var? P nm=some cs) (h:kJ w avs cs.toList):RepAt [] w ⟨g,0,none⟩ 0 avs:=by
 refine RepAt.of_get λj hj=>?_
 have hl:=h.1.length
 have hj2:j<cs.toList.length:=by omega
 refine⟨cs.toList[j],fy ?_,h.2 _ (getElem_mem hj2),h.1.get j hj hj2⟩
 rw[Nat.zero_add,add_lit,Nat.zero_add]
 have:=World.var?_cell hg hv j
 rw[this]
 simp
def globOf (l:List (Nat×List AV)):Glob where
 tab g:=(l.find? λp=>p.1==g).map (·.2)
 holds σ w:=∀p∈l,RepAt σ w ⟨p.1,0,none⟩ 0 p.2
 ev he h:=λp hp=>RepAt.ev he _ _ _ (h p hp)
 tabs:=by
  intro σ w g cs h ht
  obtain⟨p,hp,rfl⟩:=Option.map_eq_some_iff.1 ht
  have h1:=find?_some hp
  have h2:=mem_of_find?_eq_some hp
  have e:p.1=g:=by simpa using h1
  rw[←e]
  exact h p h2
structure Idd where
 act:Int
 item:Int
 n:Int
 deriving DecidableEq,Inhabited
structure Wd where
 text:List UInt8
 act:Int
 item:Int
 at_:Int
 deriving DecidableEq,Inhabited
structure Stp where
 kind:Int
 label:List UInt8
 deriving DecidableEq,Inhabited
structure Sta where
 kind:Int
 day:Int
 event:List UInt8
 deriving DecidableEq,Inhabited
structure U where
 id:Idd
 kind:Int
 label:List UInt8
 head:List Wd
 words:List Wd
 kids:List U
 deriving Inhabited
structure Itm where
 kind:Int
 at_:List Stp
 to_:List Stp
 wh:Int
 nth:Int
 unit:U
 old:List (List UInt8)
 new:List (List UInt8)
 label:List UInt8
 for_:List UInt8
 start:Sta
 act:Int
 item:Int
 day:Int
 event:List UInt8
 by_:List Itm
 deriving Inhabited
structure Fnd where
 at_:Int
 id:Idd
 why:Int
 text:List UInt8
 deriving DecidableEq,Inhabited
def zU:List AV:=[.int .i64 0,.int .i64 0,.int .i64 0,.int .i64 0,.str [],.nil,.nil,.nil]
def zItm:List AV:=[.int .i64 0,.nil,.nil,.int .i64 0,.int .i64 0,.int .i64 0,.int .i64 0,.int .i64 0,.int .i64 0,.str [],.nil,.nil,.nil,.nil,.nil,.str [],.str [],.int .i64 0,.int .i64 0,.str [],.int .i64 0,.int .i64 0,.int .i64 0,.str [],.nil]
def srow (s:List UInt8):List AV:=[.str s]
def Wd.cs (w:Wd):List AV:=[.str w.text,.int .i64 w.act,.int .i64 w.item,.int .i64 w.at_]
def Stp.cs (s:Stp):List AV:=[.int .i64 s.kind,.str s.label]
def Idd.cs (i:Idd):List AV:=[.int .i64 i.act,.int .i64 i.item,.int .i64 i.n]
def Fnd.cs (f:Fnd):List AV:=[.int .i64 f.at_,.int .i64 f.id.act,.int .i64 f.id.item,.int .i64 f.id.n,.int .i64 f.why,.str f.text]
mutual
def U.cs:U->List AV
 |⟨i,k,l,h,w,ks⟩=>[.int .i64 i.act,.int .i64 i.item,.int .i64 i.n,.int .i64 k,.str l,.lst 4 (h.map Wd.cs),.lst 4 (w.map Wd.cs),.lst 8 (U.css ks)]
def U.css:List U->List (List AV)
 |[]=>[]
 |u::us=>U.cs u::U.css us
end
theorem U.css_map:∀us:List U,U.css us=us.map U.cs
 |[]=>rfl
 |u::us=>by rw[U.css,U.css_map us];rfl
theorem U.cs_eq (u:U):U.cs u=[.int .i64 u.id.act,.int .i64 u.id.item,.int .i64 u.id.n,.int .i64 u.kind,.str u.label,.lst 4 (u.head.map Wd.cs),.lst 4 (u.words.map Wd.cs),.lst 8 (u.kids.map U.cs)]:=by
 cases u
 simp only[U.cs,U.css_map]
mutual
def Itm.cs:Itm->List AV
 |⟨k,a,t,wh,n,u,o,w,l,f,s,ac,it,d,e,b⟩=>[.int .i64 k,.lst 2 (a.map Stp.cs),.lst 2 (t.map Stp.cs),.int .i64 wh,.int .i64 n,.int .i64 u.id.act,.int .i64 u.id.item,.int .i64 u.id.n,.int .i64 u.kind,.str u.label,.lst 4 (u.head.map Wd.cs),.lst 4 (u.words.map Wd.cs),.lst 8 (u.kids.map U.cs),
   .lst 1 (o.map srow),.lst 1 (w.map srow),.str l,.str f,.int .i64 s.kind,.int .i64 s.day,.str s.event,.int .i64 ac,.int .i64 it,.int .i64 d,.str e,.lst 25 (Itm.css b)]
def Itm.css:List Itm->List (List AV)
 |[]=>[]
 |u::us=>Itm.cs u::Itm.css us
end
theorem Itm.css_map:∀us:List Itm,Itm.css us=us.map Itm.cs
 |[]=>rfl
 |u::us=>by rw[Itm.css,Itm.css_map us];rfl
theorem Itm.cs_eq (x:Itm):Itm.cs x=[.int .i64 x.kind,.lst 2 (x.at_.map Stp.cs),.lst 2 (x.to_.map Stp.cs),.int .i64 x.wh,.int .i64 x.nth,.int .i64 x.unit.id.act,.int .i64 x.unit.id.item,.int .i64 x.unit.id.n,.int .i64 x.unit.kind,.str x.unit.label,.lst 4 (x.unit.head.map Wd.cs),.lst 4 (x.unit.words.map Wd.cs),.lst 8 (x.unit.kids.map U.cs),
   .lst 1 (x.old.map srow),.lst 1 (x.new.map srow),.str x.label,.str x.for_,.int .i64 x.start.kind,.int .i64 x.start.day,.str x.start.event,.int .i64 x.act,.int .i64 x.item,.int .i64 x.day,.str x.event,.lst 25 (x.by_.map Itm.cs)]:=by
 cases x
 simp only[Itm.cs,Itm.css_map]
theorem U.cs_len (u:U):u.cs.length=8:=by rw[U.cs_eq];rfl
theorem Itm.cs_len (u:Itm):u.cs.length=25:=by rw[Itm.cs_eq];rfl
/-! ### trees -/
theorem U.size_kid {u k:U} (h:k∈u.kids):SizeOf.sizeOf k<SizeOf.sizeOf u:=by
 have:=sizeOf_lt_of_mem h
 cases u
 simp at*
 omega
theorem U.ind {p:U->Prop} (h:∀u,(∀k∈u.kids,p k)->p u) (u:U):p u:=by
 have:∀n (u:U),SizeOf.sizeOf u<n->p u:=by
  intro n
  induction n with
  |zero=>intro u hu;omega
  |succ n ih=>exact λu hu=>h u λk hk=>ih k (by have:=U.size_kid hk;omega)
 exact this _ u (Nat.lt_succ_self _)
theorem Itm.size_by {u k:Itm} (h:k∈u.by_):SizeOf.sizeOf k<SizeOf.sizeOf u:=by
 have:=sizeOf_lt_of_mem h
 cases u
 simp at*
 omega
theorem Itm.ind {p:Itm->Prop} (h:∀u,(∀k∈u.by_,p k)->p u) (u:Itm):p u:=by
 have:∀n (u:Itm),SizeOf.sizeOf u<n->p u:=by
  intro n
  induction n with
  |zero=>intro u hu;omega
  |succ n ih=>exact λu hu=>h u λk hk=>ih k (by have:=Itm.size_by hk;omega)
 exact this _ u (Nat.lt_succ_self _)
mutual
def U.flat:U->List U
 |⟨i,k,l,h,w,ks⟩=>⟨i,k,l,h,w,ks⟩::U.flats ks
def U.flats:List U->List U
 |[]=>[]
 |u::us=>U.flat u++U.flats us
end
theorem U.flat_eq (u:U):u.flat=u::U.flats u.kids:=by cases u;rw[U.flat]
mutual
def U.deep:U->Nat
 |⟨_,_,_,_,_,ks⟩=>U.deeps ks
def U.deeps:List U->Nat
 |[]=>0
 |u::us=>max (1+U.deep u) (U.deeps us)
end
theorem U.deep_eq (u:U):u.deep=U.deeps u.kids:=by cases u;rw[U.deep]
mutual
def U.beq:U->U->Bool
 |⟨i,k,l,h,w,ks⟩,⟨i',k',l',h',w',ks'⟩=>decide (i=i')&&(decide (k=k')&&(decide (l=l')&&(decide (h=h')&&(decide (w=w')&&U.beqs ks ks'))))
def U.beqs:List U->List U->Bool
 |[],[]=>true
 |u::us,v::vs=>U.beq u v&&U.beqs us vs
 |_,_=>false
end
theorem U.beqs_iff_of {us:List U}:(∀k∈us,∀v,U.beq k v=true↔k=v)->∀vs,U.beqs us vs=true↔us=vs:=by
 induction us with
 |nil=>intro _ vs;cases vs<;>simp[U.beqs]
 |cons u us ih=>
  intro h vs
  cases vs with
  |nil=>simp[U.beqs]
  |cons v vs=>rw[U.beqs,Bool.and_eq_true,h u (by simp),ih (λk hk=>h k (by simp[hk]))];simp
theorem U.beq_iff:∀u v:U,U.beq u v=true↔u=v:=by
 refine U.ind λu ih v=>?_
 cases u;cases v
 simp only[U.beq,Bool.and_eq_true,decide_eq_true_eq,U.mk.injEq]
 rw[U.beqs_iff_of ih]
instance:DecidableEq U:=λu v=>if h:U.beq u v=true then isTrue ((U.beq_iff u v).1 h)else isFalse λe=>h ((U.beq_iff u v).2 e)
mutual
def Itm.beq:Itm->Itm->Bool
 |⟨k,a,t,wh,n,u,o,w,l,f,s,ac,it,d,e,b⟩,⟨k',a',t',wh',n',u',o',w',l',f',s',ac',it',d',e',b'⟩=>
  decide (k=k')&&(decide (a=a')&&(decide (t=t')&&(decide (wh=wh')&&(decide (n=n')&&(U.beq u u'&&(decide (o=o')&&(decide (w=w')&&(decide (l=l')&&(decide (f=f')&&(decide (s=s')&&
  (decide (ac=ac')&&(decide (it=it')&&(decide (d=d')&&(decide (e=e')&&Itm.beqs b b'))))))))))))))
def Itm.beqs:List Itm->List Itm->Bool
 |[],[]=>true
 |u::us,v::vs=>Itm.beq u v&&Itm.beqs us vs
 |_,_=>false
end
theorem Itm.beqs_iff_of {us:List Itm}:(∀k∈us,∀v,Itm.beq k v=true↔k=v)->∀vs,Itm.beqs us vs=true↔us=vs:=by
 induction us with
 |nil=>intro _ vs;cases vs<;>simp[Itm.beqs]
 |cons u us ih=>
  intro h vs
  cases vs with
  |nil=>simp[Itm.beqs]
  |cons v vs=>rw[Itm.beqs,Bool.and_eq_true,h u (by simp),ih (λk hk=>h k (by simp[hk]))];simp
theorem Itm.beq_iff:∀u v:Itm,Itm.beq u v=true↔u=v:=by
 refine Itm.ind λu ih v=>?_
 cases u;cases v
 simp only[Itm.beq,Bool.and_eq_true,decide_eq_true_eq,Itm.mk.injEq]
 rw[Itm.beqs_iff_of ih,U.beq_iff]
instance:DecidableEq Itm:=λu v=>if h:Itm.beq u v=true then isTrue ((Itm.beq_iff u v).1 h)else isFalse λe=>h ((Itm.beq_iff u v).2 e)
/-! ### loops over a list: what is left from i on -/
theorem nt {α:Type} {l:List α} {i:Nat} (h:l.drop i=[]) (hi:i<=l.length):i=l.length:=by
 have:=congrArg List.length h
 simp at this
 omega
structure Rest {α:Type} (l:List α) (i:Nat) (x:α) (r:List α):Prop where
 lt:i<l.length
 lt':(i:Int)<(l.length:Int)
 yes:decide ((i:Int)<(l.length:Int))=true
 le0:(0:Int)<=(i:Int)
 next:l.drop (i+1)=r
 get:∀d,l.getD i d=x
 row:∀{β:Type} (f:α->β) (d:β),(l.map f).getD i d=f x
 mem:x∈l
 le:i+1<=l.length
 step:l.length-(i+1)<l.length-i
 take:l.take (i+1)=l.take i++[x]
theorem gk {α:Type} {l:List α} {i:Nat} {x:α} {r:List α} (h:l.drop i=x::r):Rest l i x r:=by
 have hi:i<l.length:=by
  have:=congrArg List.length h
  simp at this
  omega
 have e:l.drop i=l[i]::l.drop (i+1):=drop_eq_getElem_cons hi
 rw[e]at h
 injection h with h1 h2
 refine⟨hi,by omega,by simpa using hi,by omega,h2,λd=>by simp[hi,h1],λf d=>by simp[hi,h1],h1 ▸ getElem_mem hi,hi,by omega,by rw[take_succ_eq_append_getElem hi,h1]⟩
theorem jE {i:Nat} (h:i<9223372036854775807):IntKind.i64.wrap ((i:Int)+1)=((i+1:Nat):Int):=by
 have:=IntWalk.i64_in ((i:Int)+1) ⟨by omega,by omega⟩
 rw[show((i+1:Nat):Int)=(i:Int)+1 from by omega]
 exact this
/-! ### rules for cells -/
theorem U.cs_drop (u:U) (n:Nat):u.cs.drop (n+1)=[AV.int .i64 u.id.item,.int .i64 u.id.n,.int .i64 u.kind,.str u.label,.lst 4 (u.head.map Wd.cs),.lst 4 (u.words.map Wd.cs),.lst 8 (u.kids.map U.cs)].drop n:=by rw[U.cs_eq];rfl
theorem U.cs_take (u:U):u.cs.take 8=u.cs:=by rw[U.cs_eq];rfl
theorem U.cs_take3 (u:U):u.cs.take 3=[AV.int .i64 u.id.act,.int .i64 u.id.item,.int .i64 u.id.n]:=by rw[U.cs_eq];rfl
theorem U.cs_head (u:U) (d:AV):u.cs.headD d= .int .i64 u.id.act:=by rw[U.cs_eq];rfl
theorem Itm.cs_drop (x:Itm) (n:Nat):x.cs.drop (n+1)=[AV.lst 2 (x.at_.map Stp.cs),.lst 2 (x.to_.map Stp.cs),.int .i64 x.wh,.int .i64 x.nth,.int .i64 x.unit.id.act,.int .i64 x.unit.id.item,.int .i64 x.unit.id.n,.int .i64 x.unit.kind,.str x.unit.label,.lst 4 (x.unit.head.map Wd.cs),.lst 4 (x.unit.words.map Wd.cs),.lst 8 (x.unit.kids.map U.cs),
   .lst 1 (x.old.map srow),.lst 1 (x.new.map srow),.str x.label,.str x.for_,.int .i64 x.start.kind,.int .i64 x.start.day,.str x.start.event,.int .i64 x.act,.int .i64 x.item,.int .i64 x.day,.str x.event,.lst 25 (x.by_.map Itm.cs)].drop n:=by rw[Itm.cs_eq];rfl
theorem Itm.cs_take (u:Itm):u.cs.take 25=u.cs:=by rw[Itm.cs_eq];rfl
theorem Itm.cs_head (u:Itm) (d:AV):u.cs.headD d= .int .i64 u.kind:=by rw[Itm.cs_eq];rfl
theorem U.cs_fold (u:U):[AV.int .i64 u.id.act,.int .i64 u.id.item,.int .i64 u.id.n,.int .i64 u.kind,.str u.label,.lst 4 (u.head.map Wd.cs),.lst 4 (u.words.map Wd.cs),.lst 8 (u.kids.map U.cs)]=u.cs:=(U.cs_eq u).symm
theorem wd_cs (w:Wd):w.cs=[.str w.text,.int .i64 w.act,.int .i64 w.item,.int .i64 w.at_]:=(rfl)
theorem stp_cs (s:Stp):s.cs=[.int .i64 s.kind,.str s.label]:=(rfl)
theorem idd_cs (i:Idd):i.cs=[.int .i64 i.act,.int .i64 i.item,.int .i64 i.n]:=(rfl)
theorem fnd_cs (f:Fnd):f.cs=[.int .i64 f.at_,.int .i64 f.id.act,.int .i64 f.id.item,.int .i64 f.id.n,.int .i64 f.why,.str f.text]:=(rfl)
theorem mc (s:List UInt8):srow s=[.str s]:=(rfl)
theorem zU_eq:zU=[.int .i64 0,.int .i64 0,.int .i64 0,.int .i64 0,.str [],.nil,.nil,.nil]:=(rfl)
theorem zItm_eq:zItm=[.int .i64 0,.nil,.nil,.int .i64 0,.int .i64 0,.int .i64 0,.int .i64 0,.int .i64 0,.int .i64 0,.str [],.nil,.nil,.nil,.nil,.nil,.str [],.str [],.int .i64 0,.int .i64 0,.str [],.int .i64 0,.int .i64 0,.int .i64 0,.str [],.nil]:=(rfl)
set_option linter.defProp false
def EV7:=AI (AI (AI U.cs_len Itm.cs_len) (AI U.cs_drop Itm.cs_drop)) (AI (AI (AI U.cs_take (AI U.cs_take3 U.cs_head)) (AI Itm.cs_take Itm.cs_head)) (AI (AI (AI wd_cs stp_cs) (AI idd_cs fnd_cs)) (AI (AI mc (AI zU_eq zItm_eq)) (AI (AI @List.length_map.{0,0} @Int.toNat_natCast) @List.append_nil.{0}))))
/-! ### walks: either order; a loop over a list -/
theorem ae {G:Glob} {P:Program} {a b:DT} {env:Env} {σ:Store} {K:Env->Store->Prop} {t:Tag K} (h1:TR G P a env σ K ⟨⟩) (h2:TR G P b env σ K ⟨⟩):TR G P (.both a b) env σ K t:=⟨h1,h2⟩
theorem af {G:Glob} {env:Env} {σ:Store} {K:Env->Store->Prop} (h:K env σ):∃env' σ',Weak G env σ env' σ'/\K env' σ':=⟨env,σ,Weak.rfl' _ _,h⟩
def LK {α ι:Type} (G:Glob) (l:List α) (ok:Nat->List α->ι->Prop) (st:Nat->ι->Env) (ss:Nat->ι->Store) (i:Nat):Env->Store->Prop:=
 λenv σ=>∃j:Nat×List α×ι,(l.drop j.1=j.2.1/\j.1<=l.length/\ok j.1 j.2.1 j.2.2)/\l.length-j.1<l.length-i/\Weak G env σ (st j.1 j.2.2) (ss j.1 j.2.2)
theorem ap {α ι:Type} {G:Glob} {l:List α} {ok:Nat->List α->ι->Prop} {st:Nat->ι->Env} {ss:Nat->ι->Store} {i:Nat} {x:α} {r:List α} {env:Env} {σ:Store} (hx:Rest l i x r) (c:ι) (h:ok (i+1) r c)
  (hw:Weak G env σ (st (i+1) c) (ss (i+1) c)):LK G l ok st ss i env σ:=⟨(i+1,r,c),⟨hx.next,hx.le,h⟩,hx.step,hw⟩
theorem ay {α ι:Type} {G:Glob} {P:Program} {a:SCode} {Q:Exit->Env->Store->Prop} {tQ:Tag Q} {env:Env} {σ:Store} (l:List α) (ok:Nat->List α->ι->Prop) (st:Nat->ι->Env) (ss:Nat->ι->Store) (c0:ι)
  (h0:ok 0 l c0) (hw:Weak G env σ (st 0 c0) (ss 0 c0)) (hl:l.length<9000000000000000000)
  (more:∀i x r c,ok i (x::r) c->Rest l i x r->IntKind.i64.wrap ((i:Int)+1)=((i+1:Nat):Int)->W G P a (NR (LK G l ok st ss i) Q ⟨⟩ ⟨⟩) (st i c) (ss i c) ⟨⟩)
  (fin:∀c,ok l.length [] c->decide ((l.length:Int)<(l.length:Int))=false->W G P a (NR (LK G l ok st ss l.length) Q ⟨⟩ ⟨⟩) (st l.length c) (ss l.length c) ⟨⟩):W G P (.loop a) Q env σ tQ:=by
 refine jf (ι:=Nat×List α×ι) (λj=>l.drop j.1=j.2.1/\j.1<=l.length/\ok j.1 j.2.1 j.2.2) (λj=>l.length-j.1) (λj=>st j.1 j.2.2) (λj=>ss j.1 j.2.2) (0,l,c0) ⟨rfl,Nat.zero_le _,h0⟩ hw ?_
 rintro⟨i,r,c⟩ ⟨h1,h2,h3⟩
 simp only at h1 h2 h3 ⊢
 cases r with
 |nil=>
  obtain rfl:=nt h1 h2
  exact fin c h3 (by simp)
 |cons x r=>
  have hx:=gk h1
  exact more i x r c h3 hx (jE (by have:=hx.lt;omega))
theorem keys_cons {k:Nat} {x:AObj} {σ:Store}:Store.keys ((k,x)::σ)=k::σ.keys:=rfl
theorem keys_nil:Store.keys []=[]:=rfl
def EVC:=(AI (AI (AI @List.all_cons.{0} (AI @List.all_nil.{0} @List.any_cons.{0})) (AI (AI @List.any_nil.{0} @Bool.not_false) (AI @Bool.not_true @Bool.false_and))) (AI (AI @Bool.and_false (AI @Bool.true_and @Bool.and_true)) (AI (AI @Bool.false_or @Bool.or_false) (AI @Bool.true_or @Bool.or_true))))
def EVB:=(AI (AI (AI (AI @Bool.and_eq_false_iff @Bool.or_eq_false_iff) (AI @beq_eq_false_iff_ne.{0} (AI @Bool.not_true @Bool.not_false))) (AI (AI @Bool.and_eq_true (AI @Bool.or_eq_true @decide_eq_true_eq)) (AI @decide_eq_false_iff_not (AI @beq_iff_eq.{0} @bne_iff_ne.{0})))) (AI (AI (AI @ne_eq.{1} @Bool.not_eq_true') (AI @Bool.not_eq_true (AI @Bool.not_eq_false @Bool.false_eq_true))) (AI (AI @Bool.true_eq_false (AI @false_iff @iff_false)) (AI @true_iff (AI @iff_true @Bool.not_eq_eq_eq_not)))))
def EVK:=(AI (AI (AI @keys_cons @keys_nil) (AI @List.mem_cons.{0} @List.not_mem_nil.{0})) (AI (AI @not_or @or_false) (AI @not_false_eq_true (AI @and_true @true_and))))
def EVz:=(AI (AI (AI EV1 EV2) (AI EV3 EV4)) (AI EV5 (AI @eq_self.{1} (AI @Option.map_some.{0,0} (AI @decide_true @decide_false)))))
end Go.Av
namespace Go.Av
open Go List
set_option linter.unusedSimpArgs false
set_option linter.unusedVariables false
abbrev qa (d:Nat) (x:SOp):SOper:=⟨some d,none,x⟩
abbrev qb (d g:Nat) (x:SOp):SOper:=⟨some d,some (g,true),x⟩
abbrev qc (d g:Nat) (x:SOp):SOper:=⟨some d,some (g,false),x⟩
abbrev qi (n:Int):SOpd:=.c (.int .i64 n)
abbrev qt:SOpd:=.c (.bool true)
abbrev qf:SOpd:=.c (.bool false)
abbrev qs (a b:SCode):SCode:=.seq a b
abbrev ql (x:SOpd):SOp:=.load false 1 x
abbrev mt (a:Nat):SOp:=.mov (.t a)
abbrev fa (a b:Nat):SOp:=.fieldA a (.t b)
abbrev lo (a:Nat):SOp:=ql (.t a)
abbrev lm (a b:Nat):SOp:=.load true a (.t b)
abbrev qr (a:List SOper) (b:List Nat):SCode:=.region a b
abbrev RL:=List (Nat×Option (Bool×Nat))
abbrev Qm (d:Nat) (a:Nat):SOper:=qa d (mt a)
abbrev Bm (d k:Nat) (a:Nat):SOper:=qb d k (mt a)
abbrev Ym (d k:Nat) (a:Nat):SOper:=qc d k (mt a)
abbrev Qo (d:Nat) (a:Nat):SOper:=qa d (lo a)
abbrev Qa (d:Nat) (a:Nat) (b:Nat):SOper:=qa d (fa a b)
abbrev Ql (d:Nat) (a:Nat) (b:Nat):SOper:=qa d (lm a b)
abbrev Qe (d:Nat) (a:Nat) (b:Nat):SOper:=qa d (.extract a (.t b))
abbrev Qb (d:Nat) (a:Nat) (b:Nat):SOper:=qa d (.boxR a (.t b))
abbrev QB (d:Nat) (a:Nat) (b:Nat) (c:Nat):SOper:=qa d (.box a b (.t c))
abbrev Qi (d:Nat) (m:Int):SOper:=qa d (.mov (qi m))
abbrev Qf (d:Nat):SOper:=qa d (.mov qf)
abbrev Qt (d:Nat):SOper:=qa d (.mov qt)
abbrev Qz (d:Nat):SOper:=qa d (.mov (.c .nil))
abbrev Qp (d:Nat) (a:Nat) (b:Nat):SOper:=qa d (.pick (.t a) (.t b) qf)
abbrev Qq (d:Nat) (a:Nat) (b:Nat):SOper:=qa d (.pick (.t a) qt (.t b))
abbrev Qn (d:Nat) (a:Nat):SOper:=qa d (.len (.t a))
abbrev QN (d:Nat) (a:Nat):SOper:=qa d (.lenS (.t a))
abbrev Qx (d:Nat) (a:Nat) (b:Nat) (c:Nat):SOper:=qa d (.indexA a (.t b) (.t c))
abbrev QU (d:Nat) (a:Nat):SOper:=qa d (.alloc a zU)
abbrev Qw (d:Nat) (a:Nat) (b:Nat) (c:Nat) (e:Nat) (f:Nat):SOper:=qa d (.append a b c (.t e) (.t f))
abbrev Qc (d:Nat) (a:Nat):SOper:=qa d (.nilCheck (.t a))
abbrev Qr (d:Nat) (a:Nat):SOper:=qa d (.not (.t a))
abbrev Qs (d:Nat) (a:Nat) (b:Nat):SOper:=qa d (.loadF true a (.t b))
abbrev Q0 (d:Nat) (a:Nat):SOper:=qa d (.call (.f a) [])
abbrev Q1 (d:Nat) (a:Nat) (b:Nat):SOper:=qa d (.call (.f a) [.t b])
abbrev Q2 (d:Nat) (a:Nat) (b:Nat) (c:Nat):SOper:=qa d (.call (.f a) [.t b,.t c])
abbrev Q3 (d:Nat) (a:Nat) (b:Nat) (c:Nat) (e:Nat):SOper:=qa d (.call (.f a) [.t b,.t c,.t e])
abbrev Q4 (d:Nat) (a:Nat) (b:Nat) (c:Nat) (e:Nat) (f:Nat):SOper:=qa d (.call (.f a) [.t b,.t c,.t e,.t f])
abbrev Q5 (d:Nat) (a:Nat) (b:Nat) (c:Nat) (e:Nat) (f:Nat) (g:Nat):SOper:=qa d (.call (.f a) [.t b,.t c,.t e,.t f,.t g])
abbrev Q6 (d:Nat) (a:Nat) (b:Nat) (c:Nat) (e:Nat) (f:Nat) (g:Nat) (h:Nat):SOper:=qa d (.call (.f a) [.t b,.t c,.t e,.t f,.t g,.t h])
abbrev Qu (d:Nat) (o:BinOp) (a:Nat) (m:Int):SOper:=qa d (.bin o (.t a) (qi m))
abbrev Qv (d:Nat) (o:BinOp) (a:Nat) (b:Nat):SOper:=qa d (.bin o (.t a) (.t b))
abbrev QA (d:Nat):SOper:=qa d (.build zU [])
abbrev QI (d:Nat) (a:Nat) (b:Nat):SOper:=qa d (.index (.t a) (.t b))
abbrev QS (a b c:Nat):SOper:=⟨none,none,.store a (.t b) (.t c)⟩
abbrev qR (a:List SOper) (b:List Nat) (c:SCode):SCode:=qs (qr a b) c
abbrev qX (a:Nat):SCode:=.cond (.t a) .skip (.exit 0)
abbrev qL (a:SCode):SCode:=.block 0 (.loop a)
noncomputable abbrev FB (k:Nat) (l:List Nat):=fnAt Proofs.Tryz.prog k l
end Go.Av
