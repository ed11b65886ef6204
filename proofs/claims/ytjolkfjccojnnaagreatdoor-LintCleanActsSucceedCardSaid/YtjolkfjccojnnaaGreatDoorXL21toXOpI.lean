/-
  LINT, 21: items by the reference: few words.
-/
import Derived.Test.YtjolkfjccojnnaaGreatDoorXL18toXL20
import Derived.Test.YtjolkfjccojnnaaGreatDoorXAv26toXOpenG
namespace Go.Av
open Go Go.RowKit Go.Proofs List
set_option linter.unusedSimpArgs false
set_option linter.unusedVariables false
mutual
def Itm.fit:Itm->Prop
 |⟨_,a,t,_,_,u,o,w,_,_,_,_,_,_,_,b⟩=>a.length<1000000000000000000/\t.length<1000000000000000000/\u.fit/\o.length<1000000000000000000/\w.length<1000000000000000000/\b.length<1000000000000000000/\Itm.fits b
def Itm.fits:List Itm->Prop
 |[]=>True
 |u::us=>Itm.fit u/\Itm.fits us
end
theorem Itm.fits_iff:∀{us:List Itm},Itm.fits us↔∀k∈us,k.fit
 |[]=>by simp[Itm.fits]
 |u::us=>by simp[Itm.fits,Itm.fits_iff (us:=us)]
theorem Itm.fit_eq (u:Itm):u.fit↔u.at_.length<1000000000000000000/\u.to_.length<1000000000000000000/\u.unit.fit/\u.old.length<1000000000000000000/\u.new.length<1000000000000000000/\u.by_.length<1000000000000000000/\∀k∈u.by_,k.fit:=by
 cases u
 rw[Itm.fit,Itm.fits_iff]
def kk (l:List (List UInt8)):Bool:=l.all λs=>decide ((s.length:Int)<=100)
def lr (l:List Stp):Bool:=l.all λs=>decide ((s.label.length:Int)<=100)
theorem qv (x:List UInt8) (r:List (List UInt8)):kk (x::r)=(decide ((x.length:Int)<=100)&&kk r):=rfl
theorem qu (x:Stp) (r:List Stp):lr (x::r)=(decide ((x.label.length:Int)<=100)&&lr r):=rfl
def Itm.few0 (x:Itm):Bool:=
 decide ((x.at_.length:Int)<=12)&&(decide ((x.to_.length:Int)<=12)&&(decide ((x.old.length:Int)<=300)&&(decide ((x.new.length:Int)<=300)&&(decide ((x.label.length:Int)<=100)&&
 (decide ((x.for_.length:Int)<=100)&&(decide ((x.start.event.length:Int)<=100)&&(decide ((x.event.length:Int)<=100)&&(decide ((x.by_.length:Int)<=2)&&x.unit.few 30))))))))
def qE (x:Itm):Bool:=match x.by_ with
 |[]=>false
 |y::_=>decide (0<(y.by_.length:Int))
mutual
def Itm.few:Itm->Bool
 |⟨k,a,t,wh,n,u,o,w,l,f,s,ac,it,d,e,b⟩=>Itm.few0 ⟨k,a,t,wh,n,u,o,w,l,f,s,ac,it,d,e,b⟩&&(kk o&&(kk w&&(lr a&&(lr t&&Itm.fews b))))
def Itm.fews:List Itm->Bool
 |[]=>true
 |x::l=>(!qE x&&Itm.few x)&&Itm.fews l
end
theorem Itm.fews_cons (x:Itm) (l:List Itm):Itm.fews (x::l)=((!qE x&&x.few)&&Itm.fews l):=by rw[Itm.fews]
theorem Itm.few_eq (x:Itm):x.few=(x.few0&&(kk x.old&&(kk x.new&&(lr x.at_&&(lr x.to_&&Itm.fews x.by_))))):=by cases x;rw[Itm.few]
section
variable (G:Glob)
set_option maxHeartbeats 4000000 in
theorem f7:∀(x:Itm),x.fit->Pure G Tryz.prog 7 [.agg x.cs] (.bool x.few):=by
 refine Itm.ind λit ih hfit=>?_
 obtain⟨h1,h2,h3,h4,h5,h6,h7⟩:=(Itm.fit_eq it).1 hfit
 refine Pure.w c7 λR hR=>?_
 unfold s7 r7
 rw[Itm.few_eq]at hR
 (repeat' (first|(with_reducible (first|refine ae (λh=>?_) (λh=>?_)|refine ag (λh=>?_) (λh=>?_))<;>(try simp only[Da,Db,Dc,Dw,De,Df,Dg,Dh]at h))|(with_reducible refine ab (f5 G it.unit 30 h3 (by omega) (by omega)) ?_)|simp only[EVz,seval,↓reduceIte,EV6,EV7,U.cs_fold,hx.yes,hx.le0,hx.lt',hx.get,hx.row,hw]|simp only[EVz,seval,↓reduceIte,EV6,EV7,U.cs_fold,hn]|simp only[EVz,seval,↓reduceIte,EV6,EV7,U.cs_fold]|(refine af hx () ?_ (Weak.rfl' _ _))|(refine Zq (it.old) (λi r (c:Unit)=>kk it.old=kk r) (λi c=>[(1,.ref it.cs),(3,.int .i64 i)]) (λ_ _=>[]) () (by rfl) (Weak.rfl' _ _) (by omega) (λi x r c hok hx hw=>?_) (λc hok hn=>?_))|(refine Zq (it.new) (λi r (c:Unit)=>kk it.new=kk r) (λi c=>[(1,.ref it.cs),(4,.int .i64 i)]) (λ_ _=>[]) () (by rfl) (Weak.rfl' _ _) (by omega) (λi x r c hok hx hw=>?_) (λc hok hn=>?_))|(refine Zq (it.at_) (λi r (c:Unit)=>lr it.at_=lr r) (λi c=>[(1,.ref it.cs),(5,.int .i64 i)]) (λ_ _=>[]) () (by rfl) (Weak.rfl' _ _) (by omega) (λi x r c hok hx hw=>?_) (λc hok hn=>?_))|(refine Zq (it.to_) (λi r (c:Unit)=>lr it.to_=lr r) (λi c=>[(1,.ref it.cs),(6,.int .i64 i)]) (λ_ _=>[]) () (by rfl) (Weak.rfl' _ _) (by omega) (λi x r c hok hx hw=>?_) (λc hok hn=>?_))|fail))
 all_goals first
  |(rw[hok,qv,decide_eq_true h,Bool.true_and];done)
  |(rw[hok,qu,decide_eq_true h,Bool.true_and];done)
  |(refine RET.eq hR (congrArg AV.bool ?_);rw[hok,qv,decide_eq_false (by omega)];simp;done)
  |(refine RET.eq hR (congrArg AV.bool ?_);rw[hok,qu,decide_eq_false (by omega)];simp;done)
  |(refine RET.eq hR (congrArg AV.bool ?_);simp only[Itm.few0, *,decide_true,decide_false,Bool.true_and,Bool.false_and,Bool.and_false];done)
  |(refine RET.eq hR (congrArg AV.bool ?_);unfold Itm.few0;rw[decide_eq_false (Int.not_le.2 h)];simp only[Bool.false_and,Bool.and_false];done)
  |skip
 have e0:it.few0=true:=by simp only[Itm.few0, *,decide_true,Bool.true_and]
 have e1:kk it.old=kk []:=by assumption
 have e2:kk it.new=kk []:=by assumption
 have e3:lr it.at_=lr []:=by assumption
 rw[e0,e1,e2,e3,hok]at hR
 clear hok
 refine Zq (it.by_) (λi r (c:Unit)=>Itm.fews it.by_=Itm.fews r) (λi c=>[(1,.ref it.cs),(7,.int .i64 i)]) (λ_ _=>[]) () rfl (Weak.rfl' _ _) (by omega) (λi x r c hok hx hw=>?_) (λc hok hn=>?_)
 ·rw[Itm.fews_cons]at hok
  rcases hxb:x.by_ with _|⟨y,ys⟩
  ·have hd:qE x=false:=by unfold qE;rw[hxb]
   (repeat' (first|(with_reducible (refine ae (λh=>?_) (λh=>?_))<;>(try simp only[Da,Db,Dc,Dw,De,Df,Dg,Dh]at h))|(with_reducible refine ab (ih x hx.mem (h7 x hx.mem)) ?_)|simp only[EVz,seval,↓reduceIte,EV6,EV7,hx.yes,hx.le0,hx.lt',hx.get,hx.row,hw,hxb,map_nil,length_nil]|(refine af hx () ?_ (Weak.rfl' _ _))|fail))
   ·exact RET.eq hR (by rw[hok,hd,h];rfl)
   ·rw[hok,hd,h];rfl
  ·have hd:qE x=decide (0<(y.by_.length:Int)):=by unfold qE;rw[hxb]
   (repeat' (first|(with_reducible (first|refine ae (λh=>?_) (λh=>?_)|refine ag (λh=>?_) (λh=>?_))<;>(try simp only[Da,Db,Dc,Dw,De,Df,Dg,Dh]at h))|(with_reducible refine AI (by omega) ?_)|(with_reducible refine ab (ih x hx.mem (h7 x hx.mem)) ?_)|simp only[EVz,seval,↓reduceIte,EV6,EV7,hx.yes,hx.le0,hx.lt',hx.get,hx.row,hw,hxb,map_cons,getD_cons_zero,length_cons]|(refine af hx () ?_ (Weak.rfl' _ _))|(exfalso;omega)|fail))
   all_goals first
    |(refine RET.eq hR (congrArg AV.bool ?_);rw[hok,hd,decide_eq_true h];rfl)
    |(refine RET.eq hR (congrArg AV.bool ?_);rw[hok,h,Bool.and_false];rfl)
    |(rename_i hnn;rw[hok,hd,h,decide_eq_false (by omega)];rfl)
    |trace_state
 ·(repeat' (simp only[EVz,seval,↓reduceIte,EV6,EV7,hn]))
  exact RET.eq hR (by rw[hok,Itm.fews];rfl)
end
section
variable {P:Program} {B n:Nat} {t e:TypeId} {a:List AV}
theorem bK {k:IntKind} (hu:P.underlying t=some (.int k)) (h:Shp P B n t a):∃i,a=[.int k i]:=by
 cases n with
 |zero=>exact h.elim
 |succ n=>simpa only[Shp,hu]using h
theorem eG (hu:P.underlying t=some .string) (h:Shp P B n t a):∃s:List UInt8,s.length<=B/\a=[.str s]:=by
 cases n with
 |zero=>exact h.elim
 |succ n=>simpa only[Shp,hu]using h
theorem cE {fs:Array Field} (hu:P.underlying t=some (.struct fs)) (h:Shp P B n t a):∃m,n=m+1/\ShpF (Shp P B m) fs.toList a:=by
 cases n with
 |zero=>exact h.elim
 |succ n=>exact⟨n,rfl,by simpa only[Shp,hu]using h⟩
theorem jT {α:Type} {f:α->List AV} {q:α->Prop}:∀rows:List (List AV),(∀r∈rows,∃x,r=f x/\q x)->∃l:List α,rows=l.map f/\∀x∈l,q x
 |[],_=>⟨[],rfl,λx hx=>by cases hx⟩
 |r::rows,h=>by
  obtain⟨x,hx,hq⟩:=h r (by simp)
  obtain⟨l,hl,hql⟩:=jT rows λr hr=>h r (by simp[hr])
  refine⟨x::l,by rw[hx,hl];rfl,λy hy=>?_⟩
  rcases mem_cons.1 hy with rfl|hy
  ·exact hq
  ·exact hql y hy
theorem kA {α:Type} {f:α->List AV} {q:α->Prop} {sz:Nat} (hu:P.underlying t=some (.slice e)) (hsz:P.cellsOf e=sz) (hel:∀m,m<n->∀r,Shp P B m e r->∃x,r=f x/\q x) (h:Shp P B n t a):
  ∃l:List α,a=[.lst sz (l.map f)]/\l.length<=B/\l.length*P.bytesOf e<=B/\∀x∈l,q x:=by
 cases n with
 |zero=>exact h.elim
 |succ n=>
  simp only[Shp,hu]at h
  obtain⟨rows,rfl,hl,hlb,hr⟩:=h
  obtain⟨l,rfl,hq⟩:=jT rows λr hr'=>hel n (Nat.lt_succ_self n) r (hr r hr')
  exact⟨l,by rw[hsz],by simpa using hl,by simpa using hlb,hq⟩
theorem eI {α:Type} {f:α->List AV} {q:α->Prop} {sz:Nat} (hu:P.underlying t=some (.slice e)) (hsz:P.cellsOf e=sz) (hel:∀m,m<n->∀r,Shp P B m e r->∃x,r=f x/\q x) (h:Shp P B n t a):
  ∃l:List α,a=[.lst sz (l.map f)]/\l.length<=B/\∀x∈l,q x:=by
 obtain⟨l,h1,h2,_,h3⟩:=kA hu hsz hel h
 exact⟨l,h1,h2,h3⟩
end
theorem toL {α:Type} (l:List α):l.toArray.toList=l:=rfl
abbrev Big (n:Nat):Prop:=n<1000000000000000000
theorem dH {n:Nat} (h:n<=reachBytes):Big n:=by unfold reachBytes at h;show n<_;omega
theorem open_id {n:Nat} {a:List AV} (h:Shp Tryz.prog reachBytes n 23 a):∃i:Idd,a=i.cs:=by
 obtain⟨m,rfl,g⟩:=cE Tryz.underlying23 h
 clear h
 simp only[toL,ShpF]at g
 obtain⟨a1,b1,rfl,h1,a2,b2,rfl,h2,a3,b3,rfl,h3,rfl⟩:=g
 obtain⟨i1,rfl⟩:=bK Tryz.underlying3 h1
 obtain⟨i2,rfl⟩:=bK Tryz.underlying3 h2
 obtain⟨i3,rfl⟩:=bK Tryz.underlying3 h3
 exact⟨⟨i1,i2,i3⟩,rfl⟩
theorem open_mark {n:Nat} {a:List AV} (h:Shp Tryz.prog reachBytes n 118 a):∃i1 i2 i3:Int,a=[.int .i64 i1,.int .i64 i2,.int .i64 i3]:=by
 obtain⟨m,rfl,g⟩:=cE Tryz.underlying118 h
 clear h
 simp only[toL,ShpF]at g
 obtain⟨a1,b1,rfl,h1,a2,b2,rfl,h2,a3,b3,rfl,h3,rfl⟩:=g
 obtain⟨i1,rfl⟩:=bK Tryz.underlying3 h1
 obtain⟨i2,rfl⟩:=bK Tryz.underlying3 h2
 obtain⟨i3,rfl⟩:=bK Tryz.underlying3 h3
 exact⟨i1,i2,i3,rfl⟩
theorem open_word {n:Nat} {a:List AV} (h:Shp Tryz.prog reachBytes n 120 a):∃w:Wd,a=w.cs/\Big w.text.length:=by
 obtain⟨m,rfl,g⟩:=cE Tryz.underlying120 h
 clear h
 simp only[toL,ShpF]at g
 obtain⟨a1,b1,rfl,h1,a2,b2,rfl,h2,rfl⟩:=g
 obtain⟨s,hs,rfl⟩:=eG Tryz.underlying9 h1
 obtain⟨i1,i2,i3,rfl⟩:=open_mark h2
 exact⟨⟨s,i1,i2,i3⟩,rfl,dH hs⟩
theorem open_step {n:Nat} {a:List AV} (h:Shp Tryz.prog reachBytes n 62 a):∃w:Stp,a=w.cs/\Big w.label.length:=by
 obtain⟨m,rfl,g⟩:=cE Tryz.underlying62 h
 clear h
 simp only[toL,ShpF]at g
 obtain⟨a1,b1,rfl,h1,a2,b2,rfl,h2,rfl⟩:=g
 obtain⟨i1,rfl⟩:=bK Tryz.underlying3 h1
 obtain⟨s,hs,rfl⟩:=eG Tryz.underlying9 h2
 exact⟨⟨i1,s⟩,rfl,dH hs⟩
theorem lh {n:Nat} {a:List AV} (h:Shp Tryz.prog reachBytes n 31 a):∃s:Sta,a=[.int .i64 s.kind,.int .i64 s.day,.str s.event]/\Big s.event.length:=by
 obtain⟨m,rfl,g⟩:=cE Tryz.underlying31 h
 clear h
 simp only[toL,ShpF]at g
 obtain⟨a1,b1,rfl,h1,a2,b2,rfl,h2,a3,b3,rfl,h3,rfl⟩:=g
 obtain⟨i1,rfl⟩:=bK Tryz.underlying3 h1
 obtain⟨i2,rfl⟩:=bK Tryz.underlying3 h2
 obtain⟨s,hs,rfl⟩:=eG Tryz.underlying9 h3
 exact⟨⟨i1,i2,s⟩,rfl,dH hs⟩
theorem lL {n:Nat} {a:List AV} (h:Shp Tryz.prog reachBytes n 24 a):∃l:List Wd,a=[.lst 4 (l.map Wd.cs)]/\Big l.length/\∀w∈l,Big w.text.length:=by
 obtain⟨l,h1,h2,h3⟩:=eI (f:=Wd.cs) (q:=λw=>Big w.text.length) (sz:=4) Tryz.underlying24 (by kernel_rfl) (λm _ r hr=>open_word hr) h
 exact⟨l,h1,dH h2,h3⟩
theorem lq {n:Nat} {a:List AV} (h:Shp Tryz.prog reachBytes n 28 a):∃l:List Stp,a=[.lst 2 (l.map Stp.cs)]/\Big l.length/\∀w∈l,Big w.label.length:=by
 obtain⟨l,h1,h2,h3⟩:=eI (f:=Stp.cs) (q:=λw=>Big w.label.length) (sz:=2) Tryz.underlying28 (by kernel_rfl) (λm _ r hr=>open_step hr) h
 exact⟨l,h1,dH h2,h3⟩
theorem mh {n:Nat} {a:List AV} (h:Shp Tryz.prog reachBytes n 29 a):∃l:List (List UInt8),a=[.lst 1 (l.map srow)]/\Big l.length/\∀w∈l,Big w.length:=by
 obtain⟨l,h1,h2,h3⟩:=eI (f:=srow) (q:=λw=>Big w.length) (sz:=1) Tryz.underlying29 (by kernel_rfl) (λm _ r hr=>by
  obtain⟨s,hs,rfl⟩:=eG Tryz.underlying9 hr
  exact⟨s,rfl,dH hs⟩) h
 exact⟨l,h1,dH h2,h3⟩
theorem fE:∀(n:Nat) (a:List AV),Shp Tryz.prog reachBytes n 27 a->∃u:U,a=u.cs/\u.fit:=by
 intro n
 induction n using Nat.strongRecOn with
 |ind n ih=>
  intro a h
  obtain⟨m,rfl,g⟩:=cE Tryz.underlying27 h
  clear h
  simp only[toL,ShpF]at g
  obtain⟨a1,b1,rfl,h1,a2,b2,rfl,h2,a3,b3,rfl,h3,a4,b4,rfl,h4,a5,b5,rfl,h5,a6,b6,rfl,h6,rfl⟩:=g
  obtain⟨i,rfl⟩:=open_id h1
  obtain⟨k,rfl⟩:=bK Tryz.underlying3 h2
  obtain⟨s,hs,rfl⟩:=eG Tryz.underlying9 h3
  obtain⟨hd,rfl,q1,q2⟩:=lL h4
  obtain⟨wd,rfl,q3,q4⟩:=lL h5
  obtain⟨ks,rfl,q5,q6⟩:=eI (f:=U.cs) (q:=U.fit) (sz:=8) Tryz.underlying25 (by kernel_rfl) (λm' hm r hr=>ih m' (by omega) r hr) h6
  refine⟨⟨i,k,s,hd,wd,ks⟩,?_,(U.fit_eq _).2 ⟨dH hs,⟨q1,q2⟩,⟨q3,q4⟩,dH q5,q6⟩⟩
  rw[U.cs_eq]
  rfl
end Go.Av
