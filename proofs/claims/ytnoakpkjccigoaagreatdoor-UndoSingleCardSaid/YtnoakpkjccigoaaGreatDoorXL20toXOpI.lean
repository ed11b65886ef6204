/-
  LINT, 20: names, commencement rules.
-/
import Derived.Test.YtnoakpkjccigoaaGreatDoorXFrNtoXL19
import Derived.Shelf.Strings.SlTrimAscii
import Derived.Test.YtnoakpkjccigoaaGreatDoorXAv26toXOpenG
namespace Go.Av
open Go Go.RowKit Go.Proofs List
set_option linter.unusedSimpArgs false
set_option linter.unusedVariables false
def eG:List UInt8:=[97,98,99,100,101,102,103,104,105,106,107,108,109,110,111,112,113,114,115,116,117,118,119,120,121,122,48,49,50,51,52,53,54,55,56,57,45]
theorem ol (c:UInt8):eG.contains c=kt c:=by
 have key:∀n:Fin 256,eG.contains (UInt8.ofNat n.val)=kt (UInt8.ofNat n.val):=by decide+kernel
 have:=key ⟨c.toNat,c.toNat_lt⟩
 simpa using this
theorem eS {α:Type} (p:α->Bool):∀l:List α,l.dropWhile p=[]↔l.all p=true
 |[]=>by simp
 |x::l=>by
  rw[dropWhile_cons,all_cons]
  split
  ·rename_i h;rw[eS p l,h,Bool.true_and]
  ·rename_i h;simp[h]
theorem trimS_nil (l cs:List UInt8):Lib.trimS l cs=[]↔(l.all λc=>cs.contains c)=true:=by
 unfold Lib.trimS Lib.trimLeftS Lib.trimRightS
 rw[eS,all_reverse]
 constructor
 ·intro h
  have h2:l.reverse.all (λc=>cs.contains c)=true:=by
   rw[←takeWhile_append_dropWhile (p:=λc=>cs.contains c) (l:=l.reverse),all_append,h,Bool.and_true]
   exact all_takeWhile
  rwa [all_reverse]at h2
 ·intro h
  have h2:l.reverse.dropWhile (λc=>cs.contains c)=[]:=(eS _ _).2 (by rw[all_reverse];exact h)
  rw[h2];rfl
section
variable (G:Glob)
theorem f190 (s:List UInt8) (hs:s.length<1000000000000000000):Pure G Tryz.prog 190 [.str s,.str eG] (.str (Lib.trimS s eG)):=by
 refine Pure.of_calls Tryz.func190 (by kernel_rfl) (by kernel_rfl) λτ w vs hS hA=>?_
 obtain⟨u,v,rfl,h1,h2⟩:=ji hA
 simp only[Rep]at h1 h2
 subst h1 h2
 refine⟨.string ⟨⟨Lib.trimS s eG⟩⟩,λ_ _=>by simp only[Rep],?_⟩
 have hsz:(⟨⟨s⟩⟩:ByteArray).size=s.length:=rfl
 refine(Any.strings_Trim_laid Tryz.lays160 (by kernel_rfl) ⟨⟨s⟩⟩ ⟨⟨eG⟩⟩ w (by rw[hsz];omega) (by decide) (ascii_of_all (by decide))).mono ?_
 rintro e w' ⟨rfl,hB⟩
 exact⟨rfl,hB⟩
theorem f101 (s:List UInt8) (hs:s.length<1000000000000000000):Pure G Tryz.prog 101 [.str s] (.bool (ii s)):=by
 have hT:=f190 G s hs
 have hb:decide (Lib.trimS s eG=[])=s.all kt:=by
  rw[Bool.eq_iff_iff,decide_eq_true_eq,trimS_nil]
  simp only[ol]
 unfold eG at hT hb
 refine Pure.w c101 λR hR=>?_
 unfold s101 r101
 unfold ii at hR
 generalize s.all kt=q at*
 (repeat' (first|(with_reducible (first|refine ab (λh=>?_) (λh=>?_)|refine ai (λh=>?_) (λh=>?_))<;>(try simp only[Da,Db,Dc,Dw,De,Df,Dg,Dh]at h))|(with_reducible refine AI (by omega) ?_)|(with_reducible refine aa hT ?_)|simp only[EVz,seval,↓reduceIte,EV6,EV7,hb]|fail))
 (all_goals(first|(refine RET.eq hR ?_;(refine congrArg AV.bool (Bool.eq_iff_iff.2 ?_);simp only[isLow,EVB]at*;omega))|(refine RET.eq hR ?_;((simp_all[isLow];done)))))
theorem f102 (s:Sta) (hs:s.event.length<1000000000000000000):Pure G Tryz.prog 102 [.agg [.int .i64 s.kind,.int .i64 s.day,.str s.event]] (.bool (mJ s)):=by
 refine Pure.w c102 λR hR=>?_
 unfold s102 r102
 (repeat' (first|(with_reducible (first|refine ab (λh=>?_) (λh=>?_)|refine ai (λh=>?_) (λh=>?_))<;>(try simp only[Da,Db,Dc,Dw,De,Df,Dg,Dh]at h))|(with_reducible first|refine aa (f101 G _ hs) ?_|refine aa (f185 G _ _ _) ?_)|simp only[EVz,seval,↓reduceIte,EV6,EV7]|(exfalso;omega)|fail))
 (all_goals(((refine RET.eq hR ?_;((simp_all[mJ];done))))))
end
mutual
def Itm.fit:Itm->Prop
 |⟨_,a,t,_,_,u,o,w,_,_,_,_,_,_,_,b⟩=>a.length<1000000000000000000/\t.length<1000000000000000000/\u.fit/\o.length<1000000000000000000/\w.length<1000000000000000000/\b.length<1000000000000000000/\Itm.fits b
def Itm.fits:List Itm->Prop
 |[]=>True
 |u::us=>Itm.fit u/\Itm.fits us
end
theorem Itm.fits_iff:∀{us:List Itm},Itm.fits us↔∀k∈us,k.fit
 |[]=>by simp[Itm.fits]
 |u::us=>by simp[Itm.fits,Itm.fits_iff (us:=us)]
theorem Itm.fit_eq (u:Itm):u.fit↔u.at_.length<1000000000000000000/\u.to_.length<1000000000000000000/\u.unit.fit/\u.old.length<1000000000000000000/\u.new.length<1000000000000000000/\u.by_.length<1000000000000000000/\∀k∈u.by_,k.fit:=by
 cases u
 rw[Itm.fit,Itm.fits_iff]
def bW (l:List (List UInt8)):Bool:=l.all λs=>decide ((s.length:Int)<=100)
def bX (l:List Stp):Bool:=l.all λs=>decide ((s.label.length:Int)<=100)
theorem gS (x:List UInt8) (r:List (List UInt8)):bW (x::r)=(decide ((x.length:Int)<=100)&&bW r):=rfl
theorem gT (x:Stp) (r:List Stp):bX (x::r)=(decide ((x.label.length:Int)<=100)&&bX r):=rfl
def Itm.few0 (x:Itm):Bool:=
 decide ((x.at_.length:Int)<=12)&&(decide ((x.to_.length:Int)<=12)&&(decide ((x.old.length:Int)<=300)&&(decide ((x.new.length:Int)<=300)&&(decide ((x.label.length:Int)<=100)&&
 (decide ((x.for_.length:Int)<=100)&&(decide ((x.start.event.length:Int)<=100)&&(decide ((x.event.length:Int)<=100)&&(decide ((x.by_.length:Int)<=2)&&x.unit.few 30))))))))
def jn (x:Itm):Bool:=match x.by_ with
 |[]=>false
 |y::_=>decide (0<(y.by_.length:Int))
mutual
def Itm.few:Itm->Bool
 |⟨k,a,t,wh,n,u,o,w,l,f,s,ac,it,d,e,b⟩=>Itm.few0 ⟨k,a,t,wh,n,u,o,w,l,f,s,ac,it,d,e,b⟩&&(bW o&&(bW w&&(bX a&&(bX t&&Itm.fews b))))
def Itm.fews:List Itm->Bool
 |[]=>true
 |x::l=>(!jn x&&Itm.few x)&&Itm.fews l
end
theorem Itm.fews_cons (x:Itm) (l:List Itm):Itm.fews (x::l)=((!jn x&&x.few)&&Itm.fews l):=by rw[Itm.fews]
theorem Itm.few_eq (x:Itm):x.few=(x.few0&&(bW x.old&&(bW x.new&&(bX x.at_&&(bX x.to_&&Itm.fews x.by_))))):=by cases x;rw[Itm.few]
section
variable (G:Glob)
set_option maxHeartbeats 4000000 in
theorem f55:∀(x:Itm),x.fit->Pure G Tryz.prog 55 [.agg x.cs] (.bool x.few):=by
 refine Itm.ind λit ih hfit=>?_
 obtain⟨h1,h2,h3,h4,h5,h6,h7⟩:=(Itm.fit_eq it).1 hfit
 refine Pure.w c55 λR hR=>?_
 unfold s55 r55
 rw[Itm.few_eq]at hR
 (repeat' (first|(with_reducible (first|refine ab (λh=>?_) (λh=>?_)|refine ai (λh=>?_) (λh=>?_))<;>(try simp only[Da,Db,Dc,Dw,De,Df,Dg,Dh]at h))|(with_reducible refine aa (f9 G it.unit 30 h3 (by omega) (by omega)) ?_)|simp only[EVz,seval,↓reduceIte,EV6,EV7,U.cs_fold,hx.yes,hx.le0,hx.lt',hx.get,hx.row,hw]|simp only[EVz,seval,↓reduceIte,EV6,EV7,U.cs_fold,hn]|simp only[EVz,seval,↓reduceIte,EV6,EV7,U.cs_fold]|(refine ap hx () ?_ (Weak.rfl' _ _))|(refine ay (it.old) (λi r (c:Unit)=>bW it.old=bW r) (λi c=>[(1,.ref it.cs),(3,.int .i64 i)]) (λ_ _=>[]) () (by rfl) (Weak.rfl' _ _) (by omega) (λi x r c hok hx hw=>?_) (λc hok hn=>?_))|(refine ay (it.new) (λi r (c:Unit)=>bW it.new=bW r) (λi c=>[(1,.ref it.cs),(4,.int .i64 i)]) (λ_ _=>[]) () (by rfl) (Weak.rfl' _ _) (by omega) (λi x r c hok hx hw=>?_) (λc hok hn=>?_))|(refine ay (it.at_) (λi r (c:Unit)=>bX it.at_=bX r) (λi c=>[(1,.ref it.cs),(5,.int .i64 i)]) (λ_ _=>[]) () (by rfl) (Weak.rfl' _ _) (by omega) (λi x r c hok hx hw=>?_) (λc hok hn=>?_))|(refine ay (it.to_) (λi r (c:Unit)=>bX it.to_=bX r) (λi c=>[(1,.ref it.cs),(6,.int .i64 i)]) (λ_ _=>[]) () (by rfl) (Weak.rfl' _ _) (by omega) (λi x r c hok hx hw=>?_) (λc hok hn=>?_))|fail))
 all_goals first
  |(rw[hok,gS,decide_eq_true h,Bool.true_and];done)
  |(rw[hok,gT,decide_eq_true h,Bool.true_and];done)
  |(refine RET.eq hR (congrArg AV.bool ?_);rw[hok,gS,decide_eq_false (by omega)];simp;done)
  |(refine RET.eq hR (congrArg AV.bool ?_);rw[hok,gT,decide_eq_false (by omega)];simp;done)
  |(refine RET.eq hR (congrArg AV.bool ?_);simp only[Itm.few0, *,decide_true,decide_false,Bool.true_and,Bool.false_and,Bool.and_false];done)
  |(refine RET.eq hR (congrArg AV.bool ?_);unfold Itm.few0;rw[decide_eq_false (Int.not_le.2 h)];simp only[Bool.false_and,Bool.and_false];done)
  |skip
 have e0:it.few0=true:=by simp only[Itm.few0, *,decide_true,Bool.true_and]
 have e1:bW it.old=bW []:=by assumption
 have e2:bW it.new=bW []:=by assumption
 have e3:bX it.at_=bX []:=by assumption
 rw[e0,e1,e2,e3,hok]at hR
 clear hok
 refine ay (it.by_) (λi r (c:Unit)=>Itm.fews it.by_=Itm.fews r) (λi c=>[(1,.ref it.cs),(7,.int .i64 i)]) (λ_ _=>[]) () rfl (Weak.rfl' _ _) (by omega) (λi x r c hok hx hw=>?_) (λc hok hn=>?_)
 ·rw[Itm.fews_cons]at hok
  rcases hxb:x.by_ with _|⟨y,ys⟩
  ·have hd:jn x=false:=by unfold jn;rw[hxb]
   (repeat' (first|(with_reducible (refine ab (λh=>?_) (λh=>?_))<;>(try simp only[Da,Db,Dc,Dw,De,Df,Dg,Dh]at h))|(with_reducible refine aa (ih x hx.mem (h7 x hx.mem)) ?_)|simp only[EVz,seval,↓reduceIte,EV6,EV7,hx.yes,hx.le0,hx.lt',hx.get,hx.row,hw,hxb,map_nil,length_nil]|(refine ap hx () ?_ (Weak.rfl' _ _))|fail))
   ·exact RET.eq hR (by rw[hok,hd,h];rfl)
   ·rw[hok,hd,h];rfl
  ·have hd:jn x=decide (0<(y.by_.length:Int)):=by unfold jn;rw[hxb]
   (repeat' (first|(with_reducible (first|refine ab (λh=>?_) (λh=>?_)|refine ai (λh=>?_) (λh=>?_))<;>(try simp only[Da,Db,Dc,Dw,De,Df,Dg,Dh]at h))|(with_reducible refine AI (by omega) ?_)|(with_reducible refine aa (ih x hx.mem (h7 x hx.mem)) ?_)|simp only[EVz,seval,↓reduceIte,EV6,EV7,hx.yes,hx.le0,hx.lt',hx.get,hx.row,hw,hxb,map_cons,getD_cons_zero,length_cons]|(refine ap hx () ?_ (Weak.rfl' _ _))|(exfalso;omega)|fail))
   all_goals first
    |(refine RET.eq hR (congrArg AV.bool ?_);rw[hok,hd,decide_eq_true h];rfl)
    |(refine RET.eq hR (congrArg AV.bool ?_);rw[hok,h,Bool.and_false];rfl)
    |(rename_i hnn;rw[hok,hd,h,decide_eq_false (by omega)];rfl)
    |trace_state
 ·(repeat' (simp only[EVz,seval,↓reduceIte,EV6,EV7,hn]))
  exact RET.eq hR (by rw[hok,Itm.fews];rfl)
end
section
variable {P:Program} {B n:Nat} {t e:TypeId} {a:List AV}
theorem bL {k:IntKind} (hu:P.underlying t=some (.int k)) (h:Shp P B n t a):∃i,a=[.int k i]:=by
 cases n with
 |zero=>exact h.elim
 |succ n=>simpa only[Shp,hu]using h
theorem eN (hu:P.underlying t=some .string) (h:Shp P B n t a):∃s:List UInt8,s.length<=B/\a=[.str s]:=by
 cases n with
 |zero=>exact h.elim
 |succ n=>simpa only[Shp,hu]using h
theorem cD {fs:Array Field} (hu:P.underlying t=some (.struct fs)) (h:Shp P B n t a):∃m,n=m+1/\ShpF (Shp P B m) fs.toList a:=by
 cases n with
 |zero=>exact h.elim
 |succ n=>exact⟨n,rfl,by simpa only[Shp,hu]using h⟩
theorem jt {α:Type} {f:α->List AV} {q:α->Prop}:∀rows:List (List AV),(∀r∈rows,∃x,r=f x/\q x)->∃l:List α,rows=l.map f/\∀x∈l,q x
 |[],_=>⟨[],rfl,λx hx=>by cases hx⟩
 |r::rows,h=>by
  obtain⟨x,hx,hq⟩:=h r (by simp)
  obtain⟨l,hl,hql⟩:=jt rows λr hr=>h r (by simp[hr])
  refine⟨x::l,by rw[hx,hl];rfl,λy hy=>?_⟩
  rcases mem_cons.1 hy with rfl|hy
  ·exact hq
  ·exact hql y hy
theorem oS {α:Type} {f:α->List AV} {q:α->Prop} {sz:Nat} (hu:P.underlying t=some (.slice e)) (hsz:P.cellsOf e=sz) (hel:∀m,m<n->∀r,Shp P B m e r->∃x,r=f x/\q x) (h:Shp P B n t a):
  ∃l:List α,a=[.lst sz (l.map f)]/\l.length<=B/\l.length*P.bytesOf e<=B/\∀x∈l,q x:=by
 cases n with
 |zero=>exact h.elim
 |succ n=>
  simp only[Shp,hu]at h
  obtain⟨rows,rfl,hl,hlb,hr⟩:=h
  obtain⟨l,rfl,hq⟩:=jt rows λr hr'=>hel n (Nat.lt_succ_self n) r (hr r hr')
  exact⟨l,by rw[hsz],by simpa using hl,by simpa using hlb,hq⟩
theorem fg {α:Type} {f:α->List AV} {q:α->Prop} {sz:Nat} (hu:P.underlying t=some (.slice e)) (hsz:P.cellsOf e=sz) (hel:∀m,m<n->∀r,Shp P B m e r->∃x,r=f x/\q x) (h:Shp P B n t a):
  ∃l:List α,a=[.lst sz (l.map f)]/\l.length<=B/\∀x∈l,q x:=by
 obtain⟨l,h1,h2,_,h3⟩:=oS hu hsz hel h
 exact⟨l,h1,h2,h3⟩
end
theorem toL {α:Type} (l:List α):l.toArray.toList=l:=rfl
abbrev Big (n:Nat):Prop:=n<1000000000000000000
theorem dF {n:Nat} (h:n<=reachBytes):Big n:=by unfold reachBytes at h;show n<_;omega
theorem open_id {n:Nat} {a:List AV} (h:Shp Tryz.prog reachBytes n 23 a):∃i:Idd,a=i.cs:=by
 obtain⟨m,rfl,g⟩:=cD Tryz.underlying23 h
 clear h
 simp only[toL,ShpF]at g
 obtain⟨a1,b1,rfl,h1,a2,b2,rfl,h2,a3,b3,rfl,h3,rfl⟩:=g
 obtain⟨i1,rfl⟩:=bL Tryz.underlying3 h1
 obtain⟨i2,rfl⟩:=bL Tryz.underlying3 h2
 obtain⟨i3,rfl⟩:=bL Tryz.underlying3 h3
 exact⟨⟨i1,i2,i3⟩,rfl⟩
theorem open_mark {n:Nat} {a:List AV} (h:Shp Tryz.prog reachBytes n 31 a):∃i1 i2 i3:Int,a=[.int .i64 i1,.int .i64 i2,.int .i64 i3]:=by
 obtain⟨m,rfl,g⟩:=cD Tryz.underlying31 h
 clear h
 simp only[toL,ShpF]at g
 obtain⟨a1,b1,rfl,h1,a2,b2,rfl,h2,a3,b3,rfl,h3,rfl⟩:=g
 obtain⟨i1,rfl⟩:=bL Tryz.underlying3 h1
 obtain⟨i2,rfl⟩:=bL Tryz.underlying3 h2
 obtain⟨i3,rfl⟩:=bL Tryz.underlying3 h3
 exact⟨i1,i2,i3,rfl⟩
theorem open_word {n:Nat} {a:List AV} (h:Shp Tryz.prog reachBytes n 33 a):∃w:Wd,a=w.cs/\Big w.text.length:=by
 obtain⟨m,rfl,g⟩:=cD Tryz.underlying33 h
 clear h
 simp only[toL,ShpF]at g
 obtain⟨a1,b1,rfl,h1,a2,b2,rfl,h2,rfl⟩:=g
 obtain⟨s,hs,rfl⟩:=eN Tryz.underlying9 h1
 obtain⟨i1,i2,i3,rfl⟩:=open_mark h2
 exact⟨⟨s,i1,i2,i3⟩,rfl,dF hs⟩
theorem open_step {n:Nat} {a:List AV} (h:Shp Tryz.prog reachBytes n 152 a):∃w:Stp,a=w.cs/\Big w.label.length:=by
 obtain⟨m,rfl,g⟩:=cD Tryz.underlying152 h
 clear h
 simp only[toL,ShpF]at g
 obtain⟨a1,b1,rfl,h1,a2,b2,rfl,h2,rfl⟩:=g
 obtain⟨i1,rfl⟩:=bL Tryz.underlying3 h1
 obtain⟨s,hs,rfl⟩:=eN Tryz.underlying9 h2
 exact⟨⟨i1,s⟩,rfl,dF hs⟩
theorem oT {n:Nat} {a:List AV} (h:Shp Tryz.prog reachBytes n 49 a):∃s:Sta,a=[.int .i64 s.kind,.int .i64 s.day,.str s.event]/\Big s.event.length:=by
 obtain⟨m,rfl,g⟩:=cD Tryz.underlying49 h
 clear h
 simp only[toL,ShpF]at g
 obtain⟨a1,b1,rfl,h1,a2,b2,rfl,h2,a3,b3,rfl,h3,rfl⟩:=g
 obtain⟨i1,rfl⟩:=bL Tryz.underlying3 h1
 obtain⟨i2,rfl⟩:=bL Tryz.underlying3 h2
 obtain⟨s,hs,rfl⟩:=eN Tryz.underlying9 h3
 exact⟨⟨i1,i2,s⟩,rfl,dF hs⟩
theorem ki {n:Nat} {a:List AV} (h:Shp Tryz.prog reachBytes n 24 a):∃l:List Wd,a=[.lst 4 (l.map Wd.cs)]/\Big l.length/\∀w∈l,Big w.text.length:=by
 obtain⟨l,h1,h2,h3⟩:=fg (f:=Wd.cs) (q:=λw=>Big w.text.length) (sz:=4) Tryz.underlying24 (by kernel_rfl) (λm _ r hr=>open_word hr) h
 exact⟨l,h1,dF h2,h3⟩
theorem km {n:Nat} {a:List AV} (h:Shp Tryz.prog reachBytes n 46 a):∃l:List Stp,a=[.lst 2 (l.map Stp.cs)]/\Big l.length/\∀w∈l,Big w.label.length:=by
 obtain⟨l,h1,h2,h3⟩:=fg (f:=Stp.cs) (q:=λw=>Big w.label.length) (sz:=2) Tryz.underlying46 (by kernel_rfl) (λm _ r hr=>open_step hr) h
 exact⟨l,h1,dF h2,h3⟩
theorem lS {n:Nat} {a:List AV} (h:Shp Tryz.prog reachBytes n 47 a):∃l:List (List UInt8),a=[.lst 1 (l.map srow)]/\Big l.length/\∀w∈l,Big w.length:=by
 obtain⟨l,h1,h2,h3⟩:=fg (f:=srow) (q:=λw=>Big w.length) (sz:=1) Tryz.underlying47 (by kernel_rfl) (λm _ r hr=>by
  obtain⟨s,hs,rfl⟩:=eN Tryz.underlying9 hr
  exact⟨s,rfl,dF hs⟩) h
 exact⟨l,h1,dF h2,h3⟩
theorem ls:∀(n:Nat) (a:List AV),Shp Tryz.prog reachBytes n 27 a->∃u:U,a=u.cs/\u.fit:=by
 intro n
 induction n using Nat.strongRecOn with
 |ind n ih=>
  intro a h
  obtain⟨m,rfl,g⟩:=cD Tryz.underlying27 h
  clear h
  simp only[toL,ShpF]at g
  obtain⟨a1,b1,rfl,h1,a2,b2,rfl,h2,a3,b3,rfl,h3,a4,b4,rfl,h4,a5,b5,rfl,h5,a6,b6,rfl,h6,rfl⟩:=g
  obtain⟨i,rfl⟩:=open_id h1
  obtain⟨k,rfl⟩:=bL Tryz.underlying3 h2
  obtain⟨s,hs,rfl⟩:=eN Tryz.underlying9 h3
  obtain⟨hd,rfl,q1,q2⟩:=ki h4
  obtain⟨wd,rfl,q3,q4⟩:=ki h5
  obtain⟨ks,rfl,q5,q6⟩:=fg (f:=U.cs) (q:=U.fit) (sz:=8) Tryz.underlying25 (by kernel_rfl) (λm' hm r hr=>ih m' (by omega) r hr) h6
  refine⟨⟨i,k,s,hd,wd,ks⟩,?_,(U.fit_eq _).2 ⟨dF hs,⟨q1,q2⟩,⟨q3,q4⟩,dF q5,q6⟩⟩
  rw[U.cs_eq]
  rfl
end Go.Av
