/-
  THE FRAME OF THE SYNTAX LAWS: what the variables hold that they read.
-/
import Derived.Test.YtepngejmjdgccaaGreatDoorXFrEtoXFrN
import Derived.Test.YtepngejmjdgccaaGreatDoorXSR1
import Derived.Test.YtepngejmjdgccaaGreatDoorXL16toXL17
import Derived.Test.YtepngejmjdgccaaGreatDoorXAv24toXOpenG
import Derived.Shelf.Strings.SlTrimAscii
namespace Go.Proofs.YtepngejmjdgccaaGreatDoor
open Go.ChangeShapes Go.WideShapes Go.ChangeAt Go.RowKit
set_option linter.unusedSimpArgs false
set_option linter.unusedVariables false
theorem gItem:Tryz.prog.globalNamed "pandect/syntax.names" =some 0:=by kernel_rfl
noncomputable def tItemT:TypeId:=((Tryz.prog.globals[0]?).map (·.type)).getD 0
theorem tItem:(Tryz.prog.globals[0]?).map (·.type)=some tItemT:=by kernel_rfl
theorem tItemD:Go.Av.avD Tryz.prog 6 tItemT (Rows.laid_pandect_syntax_names (H:=Unit))=some (Go.Av.synNames.map Go.Av.AV.str):=by kernel_rfl
theorem memS:("pandect/syntax.names",Rows.laid_pandect_syntax_names (H:=Unit))∈laidL.filter λx=>x.2.handleName?.isNone:=
 List.mem_filter.2 ⟨List.mem_of_getElem? (i:=8) rfl,by kernel_rfl⟩
theorem holdsS {W:World} (h:laidMetH Tryz.prog laidL W):Go.Av.GS.holds [] W:=by
 have h0:=holdsL h
 obtain⟨hmm,_⟩:=laidMetH_iff.1 h
 intro p hp
 simp only[List.mem_cons,List.not_mem_nil,or_false]at hp
 rcases hp with rfl|rfl|rfl|rfl
 ·exact h0 _ (by simp)
 ·exact h0 _ (by simp)
 ·exact h0 _ (by simp)
 ·exact Go.Av.tab_of 6 (Go.Lib.laidMet.reads hmm memS) gItem tItem tItemD
end Go.Proofs.YtepngejmjdgccaaGreatDoor
namespace Go.Av
open Go Go.RowKit Go.Proofs
set_option linter.unusedSimpArgs false
set_option linter.unusedVariables false
theorem flats_cons (u:U) (us:List U):U.flats (u::us)=u.flat++U.flats us:=by rw[U.flats]
theorem flats_nil:U.flats []=[]:=by rw[U.flats]
section
variable (G:Glob)
end
def own1 (u:U):Bool:=if u.kind=0 then decide (u.label=[])&&(decide ((u.head.length:Int)=0)&&decide ((u.words.length:Int)=0))else decide (0<=u.kind)&&decide (u.kind<=7)&&(labelOk u.label&&(rowOk u.head&&rowOk u.words))
def nodeOk (u:U):Bool:=own1 u&&((u.kids.all λk=>nests u.kind k.kind)&&decide (Apart u.kids)&&decide ((u.kids.length:Int)<=64))
section
variable (G:Glob)
def treeOk2 (u:U):Bool:=u.flat.all nodeOk&&(decide (u.dep<=8)&&(decide (u.cnt<=1024)&&idsOk u))
def marked (w:Wd):Bool:=!decide (w.act=0/\w.item=0/\w.at_=0)
def bareNode (u:U):Bool:=decide (u.id=zId)&&(!u.head.any marked&& !u.words.any marked)
def bareOk2 (u:U):Bool:=treeOk2 u&&u.flat.all bareNode
end
section
variable (G:Glob)
theorem flats_in {us:List U} {x:U} (h:x∈U.flats us):∃k∈us,x∈k.flat:=by
 induction us with
 |nil=>rw[flats_nil]at h;cases h
 |cons a us ih=>
  rw[flats_cons]at h
  rcases List.mem_append.1 h with h|h
  ·exact⟨a,by simp,h⟩
  ·obtain⟨k,hk,hx⟩:=ih h;exact⟨k,by simp[hk],hx⟩
end
section
variable (G:Glob)
end
mutual
def Itm.fit:Itm->Prop
 |⟨_,a,t,_,_,u,o,w,_,_,_,_,_,_,_,b⟩=>a.length<1000000000000000000/\t.length<1000000000000000000/\u.fit/\o.length<1000000000000000000/\w.length<1000000000000000000/\b.length<1000000000000000000/\Itm.fits b
def Itm.fits:List Itm->Prop
 |[]=>True
 |u::us=>Itm.fit u/\Itm.fits us
end
theorem Itm.fits_iff:∀{us:List Itm},Itm.fits us↔∀k∈us,k.fit
 |[]=>by simp[Itm.fits]
 |u::us=>by simp[Itm.fits,Itm.fits_iff (us:=us)]
theorem Itm.fit_eq (u:Itm):u.fit↔u.at_.length<1000000000000000000/\u.to_.length<1000000000000000000/\u.unit.fit/\u.old.length<1000000000000000000/\u.new.length<1000000000000000000/\u.by_.length<1000000000000000000/\∀k∈u.by_,k.fit:=by
 cases u
 rw[Itm.fit,Itm.fits_iff]
def texts100 (l:List (List UInt8)):Bool:=l.all λs=>decide ((s.length:Int)<=100)
def steps100 (l:List Stp):Bool:=l.all λs=>decide ((s.label.length:Int)<=100)
theorem texts100_cons (x:List UInt8) (r:List (List UInt8)):texts100 (x::r)=(decide ((x.length:Int)<=100)&&texts100 r):=rfl
theorem steps100_cons (x:Stp) (r:List Stp):steps100 (x::r)=(decide ((x.label.length:Int)<=100)&&steps100 r):=rfl
def Itm.few0 (x:Itm):Bool:=
 decide ((x.at_.length:Int)<=12)&&(decide ((x.to_.length:Int)<=12)&&(decide ((x.old.length:Int)<=300)&&(decide ((x.new.length:Int)<=300)&&(decide ((x.label.length:Int)<=100)&&
 (decide ((x.for_.length:Int)<=100)&&(decide ((x.start.event.length:Int)<=100)&&(decide ((x.event.length:Int)<=100)&&(decide ((x.by_.length:Int)<=2)&&x.unit.few 30))))))))
def deepBy (x:Itm):Bool:=match x.by_ with
 |[]=>false
 |y::_=>decide (0<(y.by_.length:Int))
mutual
def Itm.few:Itm->Bool
 |⟨k,a,t,wh,n,u,o,w,l,f,s,ac,it,d,e,b⟩=>Itm.few0 ⟨k,a,t,wh,n,u,o,w,l,f,s,ac,it,d,e,b⟩&&(texts100 o&&(texts100 w&&(steps100 a&&(steps100 t&&Itm.fews b))))
def Itm.fews:List Itm->Bool
 |[]=>true
 |x::l=>(!deepBy x&&Itm.few x)&&Itm.fews l
end
theorem Itm.fews_cons (x:Itm) (l:List Itm):Itm.fews (x::l)=((!deepBy x&&x.few)&&Itm.fews l):=by rw[Itm.fews]
theorem Itm.few_eq (x:Itm):x.few=(x.few0&&(texts100 x.old&&(texts100 x.new&&(steps100 x.at_&&(steps100 x.to_&&Itm.fews x.by_))))):=by cases x;rw[Itm.few]
section
variable (G:Glob)
set_option maxHeartbeats 4000000 in
theorem f10:∀(x:Itm),x.fit->Pure G Tryz.prog 10 [.agg x.cs] (.bool x.few):=by
 refine Itm.ind λit ih hfit=>?_
 obtain⟨h1,h2,h3,h4,h5,h6,h7⟩:=(Itm.fit_eq it).1 hfit
 refine Pure.w c10 λR hR=>?_
 unfold s10 r10
 rw[Itm.few_eq]at hR
 (repeat' (first|(with_reducible (first|refine split_case (λh=>?_) (λh=>?_)|refine gd_case (λh=>?_) (λh=>?_))<;>(try simp only[Da,Db,Dc,Dw,De,Df,Dg,Dh]at h))|(with_reducible refine CALL_pure (f17 G it.unit 30 h3 (by omega) (by omega)) ?_)|simp only[EVz,seval,↓reduceIte,EV6,EV7,U.cs_fold,hx.yes,hx.le0,hx.lt',hx.get,hx.row,hw]|simp only[EVz,seval,↓reduceIte,EV6,EV7,U.cs_fold,hn]|simp only[EVz,seval,↓reduceIte,EV6,EV7,U.cs_fold]|(refine LK_next hx () ?_ (Weak.rfl' _ _))|(refine W_list (it.old) (λi r (c:Unit)=>texts100 it.old=texts100 r) (λi c=>[(1,.ref it.cs),(3,.int .i64 i)]) (λ_ _=>[]) () (by rfl) (Weak.rfl' _ _) (by omega) (λi x r c hok hx hw=>?_) (λc hok hn=>?_))|(refine W_list (it.new) (λi r (c:Unit)=>texts100 it.new=texts100 r) (λi c=>[(1,.ref it.cs),(4,.int .i64 i)]) (λ_ _=>[]) () (by rfl) (Weak.rfl' _ _) (by omega) (λi x r c hok hx hw=>?_) (λc hok hn=>?_))|(refine W_list (it.at_) (λi r (c:Unit)=>steps100 it.at_=steps100 r) (λi c=>[(1,.ref it.cs),(5,.int .i64 i)]) (λ_ _=>[]) () (by rfl) (Weak.rfl' _ _) (by omega) (λi x r c hok hx hw=>?_) (λc hok hn=>?_))|(refine W_list (it.to_) (λi r (c:Unit)=>steps100 it.to_=steps100 r) (λi c=>[(1,.ref it.cs),(6,.int .i64 i)]) (λ_ _=>[]) () (by rfl) (Weak.rfl' _ _) (by omega) (λi x r c hok hx hw=>?_) (λc hok hn=>?_))))
 all_goals first
  |(rw[hok,texts100_cons,decide_eq_true h,Bool.true_and];done)
  |(rw[hok,steps100_cons,decide_eq_true h,Bool.true_and];done)
  |(refine RET.eq hR (congrArg AV.bool ?_);rw[hok,texts100_cons,decide_eq_false (by omega)];simp;done)
  |(refine RET.eq hR (congrArg AV.bool ?_);rw[hok,steps100_cons,decide_eq_false (by omega)];simp;done)
  |(refine RET.eq hR (congrArg AV.bool ?_);simp only[Itm.few0, *,decide_true,decide_false,Bool.true_and,Bool.false_and,Bool.and_false];done)
  |(refine RET.eq hR (congrArg AV.bool ?_);unfold Itm.few0;rw[decide_eq_false (Int.not_le.2 h)];simp only[Bool.false_and,Bool.and_false];done)
  |skip
 have e0:it.few0=true:=by simp only[Itm.few0, *,decide_true,Bool.true_and]
 have e1:texts100 it.old=texts100 []:=by assumption
 have e2:texts100 it.new=texts100 []:=by assumption
 have e3:steps100 it.at_=steps100 []:=by assumption
 rw[e0,e1,e2,e3,hok]at hR
 clear hok
 refine W_list (it.by_) (λi r (c:Unit)=>Itm.fews it.by_=Itm.fews r) (λi c=>[(1,.ref it.cs),(7,.int .i64 i)]) (λ_ _=>[]) () rfl (Weak.rfl' _ _) (by omega) (λi x r c hok hx hw=>?_) (λc hok hn=>?_)
 ·rw[Itm.fews_cons]at hok
  rcases hxb:x.by_ with _|⟨y,ys⟩
  ·have hd:deepBy x=false:=by unfold deepBy;rw[hxb]
   (repeat' (first|(with_reducible (refine split_case (λh=>?_) (λh=>?_))<;>(try simp only[Da,Db,Dc,Dw,De,Df,Dg,Dh]at h))|(with_reducible refine CALL_pure (ih x hx.mem (h7 x hx.mem)) ?_)|simp only[EVz,seval,↓reduceIte,EV6,EV7,hx.yes,hx.le0,hx.lt',hx.get,hx.row,hw,hxb,List.map_nil,List.length_nil]|(refine LK_next hx () ?_ (Weak.rfl' _ _))))
   ·exact RET.eq hR (by rw[hok,hd,h];rfl)
   ·rw[hok,hd,h];rfl
  ·have hd:deepBy x=decide (0<(y.by_.length:Int)):=by unfold deepBy;rw[hxb]
   (repeat' (first|(with_reducible (first|refine split_case (λh=>?_) (λh=>?_)|refine gd_case (λh=>?_) (λh=>?_))<;>(try simp only[Da,Db,Dc,Dw,De,Df,Dg,Dh]at h))|(with_reducible refine And.intro (by omega) ?_)|(with_reducible refine CALL_pure (ih x hx.mem (h7 x hx.mem)) ?_)|simp only[EVz,seval,↓reduceIte,EV6,EV7,hx.yes,hx.le0,hx.lt',hx.get,hx.row,hw,hxb,List.map_cons,List.getD_cons_zero,List.length_cons]|(refine LK_next hx () ?_ (Weak.rfl' _ _))|(exfalso;omega)))
   all_goals first
    |(refine RET.eq hR (congrArg AV.bool ?_);rw[hok,hd,decide_eq_true h];rfl)
    |(refine RET.eq hR (congrArg AV.bool ?_);rw[hok,h,Bool.and_false];rfl)
    |(rename_i hnn;rw[hok,hd,h,decide_eq_false (by omega)];rfl)
    |trace_state
 ·(repeat' (simp only[EVz,seval,↓reduceIte,EV6,EV7,hn]))
  exact RET.eq hR (by rw[hok,Itm.fews];rfl)
end
section
variable {P:Program} {B n:Nat} {t e:TypeId} {a:List AV}
theorem shp_int {k:IntKind} (hu:P.underlying t=some (.int k)) (h:Shp P B n t a):∃i,a=[.int k i]:=by
 cases n with
 |zero=>exact h.elim
 |succ n=>simpa only[Shp,hu]using h
theorem shp_str (hu:P.underlying t=some .string) (h:Shp P B n t a):∃s:List UInt8,s.length<=B/\a=[.str s]:=by
 cases n with
 |zero=>exact h.elim
 |succ n=>simpa only[Shp,hu]using h
theorem shp_struct {fs:Array Field} (hu:P.underlying t=some (.struct fs)) (h:Shp P B n t a):∃m,n=m+1/\ShpF (Shp P B m) fs.toList a:=by
 cases n with
 |zero=>exact h.elim
 |succ n=>exact⟨n,rfl,by simpa only[Shp,hu]using h⟩
theorem choose_list {α:Type} {f:α->List AV} {q:α->Prop}:∀rows:List (List AV),(∀r∈rows,∃x,r=f x/\q x)->∃l:List α,rows=l.map f/\∀x∈l,q x
 |[],_=>⟨[],rfl,λx hx=>by cases hx⟩
 |r::rows,h=>by
  obtain⟨x,hx,hq⟩:=h r (by simp)
  obtain⟨l,hl,hql⟩:=choose_list rows λr hr=>h r (by simp[hr])
  refine⟨x::l,by rw[hx,hl];rfl,λy hy=>?_⟩
  rcases List.mem_cons.1 hy with rfl|hy
  ·exact hq
  ·exact hql y hy
theorem shp_sliceW {α:Type} {f:α->List AV} {q:α->Prop} {sz:Nat} (hu:P.underlying t=some (.slice e)) (hsz:P.cellsOf e=sz) (hel:∀m,m<n->∀r,Shp P B m e r->∃x,r=f x/\q x) (h:Shp P B n t a):
  ∃l:List α,a=[.lst sz (l.map f)]/\l.length<=B/\l.length*P.bytesOf e<=B/\∀x∈l,q x:=by
 cases n with
 |zero=>exact h.elim
 |succ n=>
  simp only[Shp,hu]at h
  obtain⟨rows,rfl,hl,hlb,hr⟩:=h
  obtain⟨l,rfl,hq⟩:=choose_list rows λr hr'=>hel n (Nat.lt_succ_self n) r (hr r hr')
  exact⟨l,by rw[hsz],by simpa using hl,by simpa using hlb,hq⟩
theorem shp_slice {α:Type} {f:α->List AV} {q:α->Prop} {sz:Nat} (hu:P.underlying t=some (.slice e)) (hsz:P.cellsOf e=sz) (hel:∀m,m<n->∀r,Shp P B m e r->∃x,r=f x/\q x) (h:Shp P B n t a):
  ∃l:List α,a=[.lst sz (l.map f)]/\l.length<=B/\∀x∈l,q x:=by
 obtain⟨l,h1,h2,_,h3⟩:=shp_sliceW hu hsz hel h
 exact⟨l,h1,h2,h3⟩
end
theorem toL {α:Type} (l:List α):l.toArray.toList=l:=rfl
abbrev Big (n:Nat):Prop:=n<1000000000000000000
theorem big_of {n:Nat} (h:n<=reachBytes):Big n:=by unfold reachBytes at h;show n<_;omega
theorem open_id {n:Nat} {a:List AV} (h:Shp Tryz.prog reachBytes n 30 a):∃i:Idd,a=i.cs:=by
 obtain⟨m,rfl,g⟩:=shp_struct Tryz.underlying30 h
 clear h
 simp only[toL,ShpF]at g
 obtain⟨a1,b1,rfl,h1,a2,b2,rfl,h2,a3,b3,rfl,h3,rfl⟩:=g
 obtain⟨i1,rfl⟩:=shp_int Tryz.underlying3 h1
 obtain⟨i2,rfl⟩:=shp_int Tryz.underlying3 h2
 obtain⟨i3,rfl⟩:=shp_int Tryz.underlying3 h3
 exact⟨⟨i1,i2,i3⟩,rfl⟩
theorem open_mark {n:Nat} {a:List AV} (h:Shp Tryz.prog reachBytes n 78 a):∃i1 i2 i3:Int,a=[.int .i64 i1,.int .i64 i2,.int .i64 i3]:=by
 obtain⟨m,rfl,g⟩:=shp_struct Tryz.underlying78 h
 clear h
 simp only[toL,ShpF]at g
 obtain⟨a1,b1,rfl,h1,a2,b2,rfl,h2,a3,b3,rfl,h3,rfl⟩:=g
 obtain⟨i1,rfl⟩:=shp_int Tryz.underlying3 h1
 obtain⟨i2,rfl⟩:=shp_int Tryz.underlying3 h2
 obtain⟨i3,rfl⟩:=shp_int Tryz.underlying3 h3
 exact⟨i1,i2,i3,rfl⟩
theorem open_word {n:Nat} {a:List AV} (h:Shp Tryz.prog reachBytes n 80 a):∃w:Wd,a=w.cs/\Big w.text.length:=by
 obtain⟨m,rfl,g⟩:=shp_struct Tryz.underlying80 h
 clear h
 simp only[toL,ShpF]at g
 obtain⟨a1,b1,rfl,h1,a2,b2,rfl,h2,rfl⟩:=g
 obtain⟨s,hs,rfl⟩:=shp_str Tryz.underlying9 h1
 obtain⟨i1,i2,i3,rfl⟩:=open_mark h2
 exact⟨⟨s,i1,i2,i3⟩,rfl,big_of hs⟩
theorem open_step {n:Nat} {a:List AV} (h:Shp Tryz.prog reachBytes n 49 a):∃w:Stp,a=w.cs/\Big w.label.length:=by
 obtain⟨m,rfl,g⟩:=shp_struct Tryz.underlying49 h
 clear h
 simp only[toL,ShpF]at g
 obtain⟨a1,b1,rfl,h1,a2,b2,rfl,h2,rfl⟩:=g
 obtain⟨i1,rfl⟩:=shp_int Tryz.underlying3 h1
 obtain⟨s,hs,rfl⟩:=shp_str Tryz.underlying9 h2
 exact⟨⟨i1,s⟩,rfl,big_of hs⟩
theorem open_start {n:Nat} {a:List AV} (h:Shp Tryz.prog reachBytes n 36 a):∃s:Sta,a=[.int .i64 s.kind,.int .i64 s.day,.str s.event]/\Big s.event.length:=by
 obtain⟨m,rfl,g⟩:=shp_struct Tryz.underlying36 h
 clear h
 simp only[toL,ShpF]at g
 obtain⟨a1,b1,rfl,h1,a2,b2,rfl,h2,a3,b3,rfl,h3,rfl⟩:=g
 obtain⟨i1,rfl⟩:=shp_int Tryz.underlying3 h1
 obtain⟨i2,rfl⟩:=shp_int Tryz.underlying3 h2
 obtain⟨s,hs,rfl⟩:=shp_str Tryz.underlying9 h3
 exact⟨⟨i1,i2,s⟩,rfl,big_of hs⟩
theorem open_words {n:Nat} {a:List AV} (h:Shp Tryz.prog reachBytes n 31 a):∃l:List Wd,a=[.lst 4 (l.map Wd.cs)]/\Big l.length/\∀w∈l,Big w.text.length:=by
 obtain⟨l,h1,h2,h3⟩:=shp_slice (f:=Wd.cs) (q:=λw=>Big w.text.length) (sz:=4) Tryz.underlying31 (by kernel_rfl) (λm _ r hr=>open_word hr) h
 exact⟨l,h1,big_of h2,h3⟩
theorem open_steps {n:Nat} {a:List AV} (h:Shp Tryz.prog reachBytes n 28 a):∃l:List Stp,a=[.lst 2 (l.map Stp.cs)]/\Big l.length/\∀w∈l,Big w.label.length:=by
 obtain⟨l,h1,h2,h3⟩:=shp_slice (f:=Stp.cs) (q:=λw=>Big w.label.length) (sz:=2) Tryz.underlying28 (by kernel_rfl) (λm _ r hr=>open_step hr) h
 exact⟨l,h1,big_of h2,h3⟩
theorem open_strs {n:Nat} {a:List AV} (h:Shp Tryz.prog reachBytes n 24 a):∃l:List (List UInt8),a=[.lst 1 (l.map srow)]/\Big l.length/\∀w∈l,Big w.length:=by
 obtain⟨l,h1,h2,h3⟩:=shp_slice (f:=srow) (q:=λw=>Big w.length) (sz:=1) Tryz.underlying24 (by kernel_rfl) (λm _ r hr=>by
  obtain⟨s,hs,rfl⟩:=shp_str Tryz.underlying9 hr
  exact⟨s,rfl,big_of hs⟩) h
 exact⟨l,h1,big_of h2,h3⟩
theorem open_unit:∀(n:Nat) (a:List AV),Shp Tryz.prog reachBytes n 34 a->∃u:U,a=u.cs/\u.fit:=by
 intro n
 induction n using Nat.strongRecOn with
 |ind n ih=>
  intro a h
  obtain⟨m,rfl,g⟩:=shp_struct Tryz.underlying34 h
  clear h
  simp only[toL,ShpF]at g
  obtain⟨a1,b1,rfl,h1,a2,b2,rfl,h2,a3,b3,rfl,h3,a4,b4,rfl,h4,a5,b5,rfl,h5,a6,b6,rfl,h6,rfl⟩:=g
  obtain⟨i,rfl⟩:=open_id h1
  obtain⟨k,rfl⟩:=shp_int Tryz.underlying3 h2
  obtain⟨s,hs,rfl⟩:=shp_str Tryz.underlying9 h3
  obtain⟨hd,rfl,q1,q2⟩:=open_words h4
  obtain⟨wd,rfl,q3,q4⟩:=open_words h5
  obtain⟨ks,rfl,q5,q6⟩:=shp_slice (f:=U.cs) (q:=U.fit) (sz:=8) Tryz.underlying32 (by kernel_rfl) (λm' hm r hr=>ih m' (by omega) r hr) h6
  refine⟨⟨i,k,s,hd,wd,ks⟩,?_,(U.fit_eq _).2 ⟨big_of hs,⟨q1,q2⟩,⟨q3,q4⟩,big_of q5,q6⟩⟩
  rw[U.cs_eq]
  rfl
theorem open_item:∀(n:Nat) (a:List AV),Shp Tryz.prog reachBytes n 39 a->∃x:Itm,a=x.cs/\x.fit:=by
 intro n
 induction n using Nat.strongRecOn with
 |ind n ih=>
  intro a h
  obtain⟨m,rfl,g⟩:=shp_struct Tryz.underlying39 h
  clear h
  simp only[toL,ShpF]at g
  obtain⟨a1,b1,rfl,h1,a2,b2,rfl,h2,a3,b3,rfl,h3,a4,b4,rfl,h4,a5,b5,rfl,h5,a6,b6,rfl,h6,a7,b7,rfl,h7,a8,b8,rfl,h8,a9,b9,rfl,h9,a10,b10,rfl,h10,a11,b11,rfl,h11,a12,b12,rfl,h12,a13,b13,rfl,h13,a14,b14,rfl,h14,a15,b15,rfl,h15,a16,b16,rfl,h16,rfl⟩:=g
  obtain⟨k,rfl⟩:=shp_int Tryz.underlying3 h1
  obtain⟨l2,rfl,q2,_⟩:=open_steps h2
  obtain⟨l3,rfl,q3,_⟩:=open_steps h3
  obtain⟨i4,rfl⟩:=shp_int Tryz.underlying3 h4
  obtain⟨i5,rfl⟩:=shp_int Tryz.underlying3 h5
  obtain⟨u6,rfl,q6⟩:=open_unit _ _ h6
  obtain⟨l7,rfl,q7,_⟩:=open_strs h7
  obtain⟨l8,rfl,q8,_⟩:=open_strs h8
  obtain⟨s9,_,rfl⟩:=shp_str Tryz.underlying9 h9
  obtain⟨s10,_,rfl⟩:=shp_str Tryz.underlying9 h10
  obtain⟨s11,rfl,_⟩:=open_start h11
  obtain⟨i12,rfl⟩:=shp_int Tryz.underlying3 h12
  obtain⟨i13,rfl⟩:=shp_int Tryz.underlying3 h13
  obtain⟨i14,rfl⟩:=shp_int Tryz.underlying3 h14
  obtain⟨s15,_,rfl⟩:=shp_str Tryz.underlying9 h15
  obtain⟨l16,rfl,q16,p16⟩:=shp_slice (f:=Itm.cs) (q:=Itm.fit) (sz:=25) Tryz.underlying37 (by kernel_rfl) (λm' hm r hr=>ih m' (by omega) r hr) h16
  refine⟨⟨k,l2,l3,i4,i5,u6,l7,l8,s9,s10,s11,i12,i13,i14,s15,l16⟩,?_,(Itm.fit_eq _).2 ⟨q2,q3,q6,q7,q8,big_of q16,p16⟩⟩
  rw[Itm.cs_eq,U.cs_eq]
  rfl
end Go.Av
