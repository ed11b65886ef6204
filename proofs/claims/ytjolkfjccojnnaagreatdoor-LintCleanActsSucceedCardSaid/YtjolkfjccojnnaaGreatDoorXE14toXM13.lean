/-
  ENACT, 14: what an item leaves as it was.
-/
import Derived.Test.YtjolkfjccojnnaaGreatDoorXE11toXL26
import Derived.Test.YtjolkfjccojnnaaGreatDoorXL38toXM9
import Derived.Test.YtjolkfjccojnnaaGreatDoorXL21toXOpI
namespace Go.Av
open Go Go.RowKit Go.Proofs List
set_option linter.unusedSimpArgs false
set_option linter.unusedVariables false
abbrev K5:=Idd×Int×List UInt8×List Wd×List Wd
def U.k5 (y:U):K5:=(y.id,y.kind,y.label,y.head,y.words)
def U.all5 (u:U):List K5:=u.flat.map U.k5
def U.alls5 (us:List U):List K5:=(U.flats us).map U.k5
theorem U.all5_eq (u:U):u.all5=u.k5::U.alls5 u.kids:=by unfold U.all5 U.alls5;rw[U.flat_eq];rfl
theorem U.alls5_nil:U.alls5 []=[]:=by unfold U.alls5;rw[bt];rfl
theorem U.alls5_cons (u:U) (us:List U):U.alls5 (u::us)=u.all5++U.alls5 us:=by unfold U.alls5 U.all5;rw[aD,map_append]
theorem U.alls5_app (a b:List U):U.alls5 (a++b)=U.alls5 a++U.alls5 b:=by unfold U.alls5;rw[cv,map_append]
theorem k5_wth {i:Idd} {f:U->U} (u:U) (hn:u.ids.Nodup) (hi:i∈u.ids):∃l r,u.all5=l++((fnd i u).all5++r)/\(U.wth i f u).all5=l++((f (fnd i u)).all5++r):=by
 refine U.wayInd (i:=i) (p:=λu=>∃l r,u.all5=l++((fnd i u).all5++r)/\(U.wth i f u).all5=l++((f (fnd i u)).all5++r)) ?_ ?_ u hn hi
 ·intro u _ h
  have e:fnd i u=u:=aF (by rw[aO h];rfl)
  refine⟨[],[],?_,?_⟩
  ·rw[e];simp
  ·rw[aZ h,e];simp
 ·intro u a k b hn h s ⟨l,r,e1,e2⟩
  rw[s.fnd hn s.mem]
  refine⟨u.k5::(U.alls5 a++l),r++U.alls5 b,?_,?_⟩
  ·rw[U.all5_eq,s.eq,U.alls5_app,U.alls5_cons,e1];simp[append_assoc]
  ·rw[s.wth h,U.all5_eq,show({u with kids:=a++U.wth i f k::b}:U).k5=u.k5 from rfl]
   simp only
   rw[U.alls5_app,U.alls5_cons,e2];simp[append_assoc]
theorem k5_ins {u:U} (hn:u.ids.Nodup) {q:Idd} (hq:q∈u.ids) (k:Nat) (x:U):∃A B,u.all5=A++B/\(U.wth q (λy=>{y with kids:=aR y.kids k x}) u).all5=A++(x.all5++B):=by
 obtain⟨l,r,e1,e2⟩:=k5_wth (f:=λy=>{y with kids:=aR y.kids k x}) u hn hq
 refine⟨l++((fnd q u).k5::U.alls5 ((fnd q u).kids.take k)),U.alls5 ((fnd q u).kids.drop k)++r,?_,?_⟩
 ·rw[e1,U.all5_eq]
  conv=>lhs;rw[←take_append_drop k (fnd q u).kids]
  rw[U.alls5_app];simp[append_assoc]
 ·rw[e2,U.all5_eq,show({fnd q u with kids:=aR (fnd q u).kids k x}:U).k5=(fnd q u).k5 from rfl]
  unfold aR
  simp only
  rw[U.alls5_app,U.alls5_cons];simp[append_assoc]
theorem k5_del {u:U} (hn:u.ids.Nodup) {i:Idd} (hi:i∈u.ids) (hne:u.id≠i):∃A B,u.all5=A++((fnd i u).all5++B)/\(dF i u).all5=A++B:=by
 obtain⟨own,d,j,w1,w2,hp⟩:=aW hn hi hne
 obtain⟨a,x,b,s,hx,hj,hl⟩:=hp.split
 have hfx:fnd i u=x:=aF hl
 subst hj
 have hW:dF i u=U.wth own.id (λy=>{y with kids:=aL y.kids a.length}) u:=by unfold dF;rw[w1]
 rw[hW,hfx]
 obtain⟨l,r,e1,e2⟩:=k5_wth (f:=λy=>{y with kids:=aL y.kids a.length}) u hn hp.mem
 rw[hp.fnd]at e1 e2
 rw[s.eq,bG]at e2
 refine⟨l++(own.k5::U.alls5 a),U.alls5 b++r,?_,?_⟩
 ·rw[e1,U.all5_eq,s.eq,U.alls5_app,U.alls5_cons];simp[append_assoc]
 ·rw[e2,U.all5_eq,show({own with kids:=a++b}:U).k5=own.k5 from rfl]
  simp only
  rw[U.alls5_app];simp[append_assoc]
theorem ku {u:U} (hn:u.ids.Nodup) {i:Idd} (hi:i∈u.ids) {f:U->U} (hf:∀y,(f y).kids=y.kids):∃A B,u.all5=A++((fnd i u).k5::B)/\(U.wth i f u).all5=A++((f (fnd i u)).k5::B):=by
 obtain⟨l,r,e1,e2⟩:=k5_wth (f:=f) u hn hi
 refine⟨l,U.alls5 (fnd i u).kids++r,?_,?_⟩
 ·rw[e1,U.all5_eq];simp
 ·rw[e2,U.all5_eq,hf];simp
/-! ### an item that fails changes nothing -/
theorem insP_err {u:U} {i:Idd} {d:Dd} (h:(insP u i d).2≠0):(insP u i d).1=u:=by
 unfold insP at h ⊢
 (repeat' split)<;>(try rfl)
 all_goals(exfalso;simp_all)
theorem movP_err {u:U} {i t:Idd} {d:Dd} (h:(movP u i t d).2≠0):(movP u i t d).1=u:=by
 unfold movP at h ⊢
 (repeat' split)<;>(try rfl)
 all_goals(exfalso;simp_all)
theorem doP_err {u:U} {d:Dd} (h:(doP u d).2≠0):(doP u d).1=u:=by
 unfold doP at h ⊢
 split
 ·rfl
 rename_i c1
 rw[if_neg c1]at h
 split
 ·rfl
 rename_i c2
 rw[if_neg c2]at h
 split
 ·rename_i c3
  rw[if_pos c3]at h
  exact insP_err h
 rename_i c3
 rw[if_neg c3]at h
 split
 ·split<;>rfl
 rename_i c4
 rw[if_neg c4]at h
 split
 ·rename_i c5
  rw[if_pos c5]at h;exact absurd rfl h
 rename_i c5
 rw[if_neg c5]at h
 split
 ·rename_i c6
  rw[if_pos c6]at h
  split
  ·rfl
  ·rename_i c7;rw[if_neg c7]at h;exact absurd rfl h
 rename_i c6
 rw[if_neg c6]at h
 split
 ·rename_i c7
  rw[if_pos c7]at h;exact absurd rfl h
 rename_i c7
 rw[if_neg c7]at h
 split
 ·rename_i c8
  rw[if_pos c8]at h
  split
  ·rfl
  ·rename_i c9;rw[if_neg c9]at h;exact absurd rfl h
 rename_i c8
 rw[if_neg c8]at h
 split
 ·rfl
 rename_i c9
 rw[if_neg c9]at h
 exact movP_err h
/-! ### the document's words for the same -/
/-! ### sizes -/
/-! ### from nothing -/
mutual
def Itm.big:Itm->Prop
 |⟨_,a,t,_,_,u,o,w,l,f,s,_,_,_,e,b⟩=>(a.length<1000000000000000000/\∀x∈a,x.label.length<1000000000000000000)/\(t.length<1000000000000000000/\∀x∈t,x.label.length<1000000000000000000)/\u.fit/\o.length<1000000000000000000/\w.length<1000000000000000000/\
  (l.length<1000000000000000000/\f.length<1000000000000000000/\s.event.length<1000000000000000000/\e.length<1000000000000000000)/\b.length<1000000000000000000/\Itm.bigs b
def Itm.bigs:List Itm->Prop
 |[]=>True
 |u::us=>Itm.big u/\Itm.bigs us
end
theorem Itm.bigs_iff:∀{us:List Itm},Itm.bigs us↔∀k∈us,k.big
 |[]=>by simp[Itm.bigs]
 |u::us=>by simp[Itm.bigs,Itm.bigs_iff (us:=us)]
theorem Itm.big_eq (x:Itm):x.big↔(x.at_.length<1000000000000000000/\∀y∈x.at_,y.label.length<1000000000000000000)/\(x.to_.length<1000000000000000000/\∀y∈x.to_,y.label.length<1000000000000000000)/\x.unit.fit/\x.old.length<1000000000000000000/\x.new.length<1000000000000000000/\
  (x.label.length<1000000000000000000/\x.for_.length<1000000000000000000/\x.start.event.length<1000000000000000000/\x.event.length<1000000000000000000)/\x.by_.length<1000000000000000000/\∀k∈x.by_,k.big:=by
 cases x
 rw[Itm.big,Itm.bigs_iff]
theorem big_fit:∀x:Itm,x.big->x.fit:=by
 refine Itm.ind λx ih h=>?_
 obtain⟨⟨a1,_⟩,⟨b1,_⟩,c,d,e,_,f,g⟩:=(Itm.big_eq x).1 h
 exact(Itm.fit_eq x).2 ⟨a1,b1,c,d,e,f,λk hk=>ih k hk (g k hk)⟩
theorem ki:∀(n:Nat) (a:List AV),Shp Tryz.prog reachBytes n 34 a->∃x:Itm,a=x.cs/\x.big:=by
 intro n
 induction n using Nat.strongRecOn with
 |ind n ih=>
  intro a h
  obtain⟨m,rfl,g⟩:=cE Tryz.underlying34 h
  clear h
  simp only[toL,ShpF]at g
  obtain⟨a1,b1,rfl,h1,a2,b2,rfl,h2,a3,b3,rfl,h3,a4,b4,rfl,h4,a5,b5,rfl,h5,a6,b6,rfl,h6,a7,b7,rfl,h7,a8,b8,rfl,h8,a9,b9,rfl,h9,a10,b10,rfl,h10,a11,b11,rfl,h11,a12,b12,rfl,h12,a13,b13,rfl,h13,a14,b14,rfl,h14,a15,b15,rfl,h15,a16,b16,rfl,h16,rfl⟩:=g
  obtain⟨k,rfl⟩:=bK Tryz.underlying3 h1
  obtain⟨l2,rfl,q2,t2⟩:=lq h2
  obtain⟨l3,rfl,q3,t3⟩:=lq h3
  obtain⟨i4,rfl⟩:=bK Tryz.underlying3 h4
  obtain⟨i5,rfl⟩:=bK Tryz.underlying3 h5
  obtain⟨u6,rfl,q6⟩:=fE _ _ h6
  obtain⟨l7,rfl,q7,_⟩:=mh h7
  obtain⟨l8,rfl,q8,_⟩:=mh h8
  obtain⟨s9,z9,rfl⟩:=eG Tryz.underlying9 h9
  obtain⟨s10,z10,rfl⟩:=eG Tryz.underlying9 h10
  obtain⟨s11,rfl,z11⟩:=lh h11
  obtain⟨i12,rfl⟩:=bK Tryz.underlying3 h12
  obtain⟨i13,rfl⟩:=bK Tryz.underlying3 h13
  obtain⟨i14,rfl⟩:=bK Tryz.underlying3 h14
  obtain⟨s15,z15,rfl⟩:=eG Tryz.underlying9 h15
  obtain⟨l16,rfl,q16,p16⟩:=eI (f:=Itm.cs) (q:=Itm.big) (sz:=25) Tryz.underlying32 (by kernel_rfl) (λm' hm r hr=>ih m' (by omega) r hr) h16
  refine⟨⟨k,l2,l3,i4,i5,u6,l7,l8,s9,s10,s11,i12,i13,i14,s15,l16⟩,?_,(Itm.big_eq _).2 ⟨⟨q2,t2⟩,⟨q3,t3⟩,q6,q7,q8,⟨dH z9,dH z10,z11,dH z15⟩,dH q16,p16⟩⟩
  rw[Itm.cs_eq,U.cs_eq]
  rfl
theorem jK {n:Nat} {a:List AV} (h:Shp Tryz.prog reachBytes n 36 a):∃d:Dd,a=d.cs/\d.it.big:=by
 obtain⟨m,rfl,g⟩:=cE Tryz.underlying36 h
 clear h
 simp only[toL,ShpF]at g
 obtain⟨a1,b1,rfl,h1,a2,b2,rfl,h2,a3,b3,rfl,h3,a4,b4,rfl,h4,rfl⟩:=g
 obtain⟨i1,rfl⟩:=bK Tryz.underlying3 h1
 obtain⟨i2,rfl⟩:=bK Tryz.underlying3 h2
 obtain⟨i3,rfl⟩:=bK Tryz.underlying3 h3
 obtain⟨x,rfl,hx⟩:=ki _ _ h4
 exact⟨⟨i1,i2,i3,x⟩,by simp[Dd.cs],hx⟩
section
variable (G:Glob)
end
section
variable (G:Glob)
def OwnW (l:List Wd) (r:AV) (σ:Store):Prop:=∃g,r= .own g 120 4 (l.map Wd.cs)/\σ=tokS g 120 (l.length*4)
end
theorem eX {n len:Nat} (hl:1<=len):∀{ps:List Nat} {s:Nat},s<=n->Gaps n len s ps->s+ps.length<=n
 |[],s,h,_=>by simpa using h
 |p::ps,s,h,⟨h1,h2,h3⟩=>by
  have:=eX hl h2 h3
  rw[length_cons];omega
def fA (q:List Wd×Int):AV:=.tup [.lst 4 (q.1.map Wd.cs),.int .i64 q.2]
section
variable (G:Glob)
end
section
variable (G:Glob)
theorem f122o (l:List (List UInt8)) (a b m:Int) (hl:l.length<1000000) (hm0:0<=m) (hm:m<1000000000000):aj G Tryz.prog 122 [.lst 1 (l.map srow),.int .i64 a,.int .i64 b,.int .i64 m] [] (OwnW (dP a b l m)):=by
 refine aj.w c122 ?_
 unfold s122 r122
 (repeat' (first|simp only[EVz,seval,↓reduceIte,EV6,EV7,hx.yes,hx.le0,hx.lt',hx.get,hx.row,hw,au (x:=m+(i:Int)) (by omega) (by have:=hx.lt;omega)]|simp only[EVz,seval,↓reduceIte,EV6,EV7,hn]|simp only[EVz,seval,↓reduceIte,EV6,EV7]|(with_reducible intro blk hblk;(try(have hnx:=hblk;simp only[EVK]at hnx;(have hne:=hnx))))|(refine Zq (ι:=Option Nat) l (λi r c=>True) (λi c=>[(1,.int .i64 a),(2,.int .i64 b),(3,.int .i64 m),(9,.own c 120 4 ((dP a b (l.take i) m).map Wd.cs)),(12,.lst 1 (l.map srow)),(13,.int .i64 l.length),(14,.int .i64 i)]) (λi c=>tokS c 120 (i*4)) none trivial (Weak.of (by simp[cQ,Env.get,AVle,aP,dP]) (SubN.refl _)) (by omega) (λi x r c hok hx hw=>?_) (λc hok hn=>?_))|fail))
 ·have hi:=hx.lt
  refine cV (n:=i) (m':=(i+1)*4) bI (by rw[length_map,bq,length_take];omega) rfl rfl rfl (by assumption) (by omega) (λgn=>?_)
  refine af hx gn trivial ?_
  rw[iJ a b l m hx,map_append]
  exact Weak.rfl' _ _
 ·rw[take_length]
  exact RET.mk (SubN.refl _) ⟨c,rfl,by rw[bq]⟩
theorem f122 (l:List (List UInt8)) (a b m:Int) (hl:l.length<1000000) (hm0:0<=m) (hm:m<1000000000000):Pure G Tryz.prog 122 [.lst 1 (l.map srow),.int .i64 a,.int .i64 b,.int .i64 m] (.lst 4 ((dP a b l m).map Wd.cs)):=
 aj.toPure (f122o G l a b m hl hm0 hm) (by rintro r σ' ⟨g,rfl,rfl⟩;exact LeRep.of (.inl (.inr ⟨rfl,rfl⟩)))
theorem f223 (l:List Wd) (hl:l.length<1000000):Pure G Tryz.prog 223 [.lst 4 (l.map Wd.cs)] (.lst 1 ((l.map Wd.text).map srow)):=by
 refine Pure.w c223 λR hR=>?_
 unfold s223 r223
 (repeat' (simp only[EVz,seval,↓reduceIte,EV6,EV7]))
 refine Zq (ι:=Option Nat) l (λi r c=>True) (λi c=>[(3,.own c 9 1 ((l.take i).map λw=>srow w.text)),(6,.lst 4 (l.map Wd.cs)),(7,.int .i64 l.length),(8,.int .i64 i)]) (λi c=>tokS c 9 (i*1)) none trivial (Weak.of (by simp[cQ,Env.get,AVle,aP]) (SubN.refl _)) (by omega) (λi x r c hok hx hw=>?_) (λc hok hn=>?_)
 ·have hi:=hx.lt
  (repeat' (first|simp only[EVz,seval,↓reduceIte,EV6,EV7,hx.yes,hx.le0,hx.lt',hx.row,hw,hx.get]|(with_reducible intro blk hblk;(try(have hnx:=hblk;simp only[EVK]at hnx;(have hne:=hnx))))|fail))
  refine cV (n:=i) (m':=(i+1)*1) (bT (by assumption)) (by rw[length_map,length_take];omega) rfl rfl rfl (by assumption) (by omega) (λgn=>?_)
  refine af hx gn trivial ?_
  simp only[hx.take,map_append,map_cons,map_nil,srow]
  exact Weak.rfl' _ _
 ·(repeat' (simp only[EVz,seval,↓reduceIte,EV6,EV7,hn]))
  exact hR _ _ (Or.inl (Or.inr ⟨rfl,by rw[take_length,map_map];rfl⟩))
theorem f222 (w row:List (List UInt8)) (hw:w.length<1000000) (hr:row.length<1000000) (hr0:row≠[]):Pure G Tryz.prog 222 [.lst 1 (w.map srow),.lst 1 (row.map srow)] (.lst 1 ((occL row 0 0 w).map λn:Nat=>[AV.int .i64 (n:Int)])):=by
 have hl1:1<=row.length:=by cases row<;>simp_all
 have e9:decide ((row.length:Int)=0)=false:=decide_eq_false (by omega)
 refine Pure.w c222 λR hR=>?_
 unfold s222 r222
 (repeat' (simp only[EVz,seval,↓reduceIte,EV6,EV7,e9]))
 refine iy (ι:=Nat×List Nat×Option Nat) (λp=>p.1<=w.length/\p.2.1.length<=p.1/\occL row 0 0 w=p.2.1++occL row 0 p.1 (w.drop p.1)) (λp=>w.length+1-p.1) (λp=>[(0,.lst 1 (w.map srow)),(1,.lst 1 (row.map srow)),(5,.own p.2.2 3 1 (p.2.1.map λn:Nat=>[AV.int .i64 (n:Int)])),(6,.int .i64 p.1)]) (λp=>tokS p.2.2 3 (p.2.1.length*1)) (0,[],none) ⟨by omega,by simp,by simp⟩ (Weak.of (by simp[cQ,Env.get,AVle,aP]) (SubN.refl _)) ?_
 rintro⟨i,l,c⟩ ⟨h1,h2,h3⟩
 simp only at h1 h2 h3 ⊢
 have w2:IntKind.i64.wrap ((i:Int)+(row.length:Int))=((i+row.length:Nat):Int):=by rw[au (by omega) (by omega)];omega
 by_cases hi:i+row.length<=w.length
 ·have e0:decide (((i+row.length:Nat):Int)<=(w.length:Int))=true:=decide_eq_true (by omega)
  have w1:IntKind.i64.wrap ((i:Int)+1)=((i+1:Nat):Int):=iQ (by omega)
  have hE:=f101 G ((w.drop i).take row.length) row (by rw[length_take];omega)
  have hsl:List.drop i (List.take (i+row.length) (w.map srow))=((w.drop i).take row.length).map srow:=by rw[drop_take,map_take,map_drop];congr 1;omega
  rcases Classical.em ((w.drop i).take row.length=row)with hm|hm
  ·rw[decide_eq_true hm]at hE
   rw[oa hr0 hm,drop_drop]at h3
   (repeat' (first|(with_reducible refine AI (by omega) ?_)|(with_reducible refine ab hE ?_)|simp only[EVz,seval,↓reduceIte,EV6,EV7,e0,w1,w2,hsl]|(with_reducible intro blk hblk;(try(have hnx:=hblk;simp only[EVK]at hnx;(have hne:=hnx))))|(refine⟨[[AV.int .i64 (i:Int)]],rfl,(by simp),(by simp),?_⟩)|(refine cH (by((simp only[length_map]<;>exact bT (by assumption)))) rfl rfl (by simp<;>omega) (λgn=>?_))|fail))
   refine⟨(i+row.length,l++[i],gn),⟨by simp only;omega,by simp only[length_append,length_cons,length_nil];omega,by simp only[append_assoc,cons_append,nil_append];exact h3⟩,by simp only;omega,?_⟩
   simp only[map_append,map_cons,map_nil,length_append,length_map,length_cons,length_nil]
   exact Weak.rfl' _ _
  ·rw[decide_eq_false hm]at hE
   rw[mp hm,drop_drop]at h3
   (repeat' (first|(with_reducible refine AI (by omega) ?_)|(with_reducible refine ab hE ?_)|simp only[EVz,seval,↓reduceIte,EV6,EV7,e0,w1,w2,hsl]|fail))
   exact⟨(i+1,l,c),⟨by simp only;omega,by simp only;omega,h3⟩,by simp only;omega,Weak.rfl' _ _⟩
 ·have e0:decide (((i+row.length:Nat):Int)<=(w.length:Int))=false:=decide_eq_false (by omega)
  have e2:occL row 0 i (w.drop i)=[]:=lB (by rw[length_drop];omega)
  rw[e2,append_nil]at h3
  (repeat' (simp only[EVz,seval,↓reduceIte,EV6,EV7,e0,w2]))
  exact hR _ _ (Or.inl (Or.inr ⟨rfl,by rw[h3]⟩))
end
def prow (n:Nat):List AV:=[.int .i64 n]
section
variable (G:Glob)
theorem f185 (w:List Wd) (row:List (List UInt8)) (nth:Int) (hw:w.length<1000000) (hr:row.length<1000000) (hr0:row≠[]) (hn:0<=nth) (hn2:nth<=1000000):Pure G Tryz.prog 185 [.lst 4 (w.map Wd.cs),.lst 1 (row.map srow),.int .i64 nth] (.lst 1 ((bH (occs w row) nth).map λn:Nat=>[AV.int .i64 (n:Int)])):=by
 have hS:=f223 G w hw
 have hF:=f222 G (w.map Wd.text) row (by rw[length_map];exact hw) hr hr0
 have hof:occL row 0 0 (w.map Wd.text)=occs w row:=rfl
 rw[hof]at hF
 refine Pure.w c185 λR hR=>?_
 unfold s185 r185
 obtain⟨ps,hps⟩:∃ps,occs w row=ps:=⟨_,rfl⟩
 rw[hps]at hR hF
 unfold bH at hR
 rcases Classical.em (nth=0)with h0|h0
 ·have e0:decide (nth=0)=true:=decide_eq_true h0
  rw[if_pos h0]at hR
  (repeat' (first|(with_reducible first|refine ab hS ?_|refine ab hF ?_)|simp only[EVz,seval,↓reduceIte,EV6,EV7,e0]|fail))
  exact hR _ _ (Or.inl (Or.inl rfl))
 ·have e0:decide (nth=0)=false:=decide_eq_false h0
  have w1:IntKind.i64.wrap (nth-1)=nth-1:=au (by omega) (by omega)
  rw[if_neg h0]at hR
  rcases Classical.em ((ps.length:Int)<nth)with h1|h1
  ·have e1:decide ((ps.length:Int)<nth)=true:=decide_eq_true h1
   have e2:ps[(nth-1).toNat]? =none:=getElem?_eq_none (by omega)
   rw[e2]at hR
   (repeat' (first|(with_reducible first|refine ab hS ?_|refine ab hF ?_)|simp only[EVz,seval,↓reduceIte,EV6,EV7,e0,e1]|fail))
   exact hR _ _ (Or.inl (Or.inr rfl))
  ·have e1:decide ((ps.length:Int)<nth)=false:=decide_eq_false h1
   have hlt:(nth-1).toNat<ps.length:=by omega
   have e2:ps[(nth-1).toNat]? =some ps[(nth-1).toNat]:=getElem?_eq_getElem hlt
   rw[e2]at hR
   have e3:List.drop (nth-1).toNat (List.take nth.toNat (ps.map λn:Nat=>[AV.int .i64 (n:Int)]))=[[AV.int .i64 ((ps[(nth-1).toNat]:Nat):Int)]]:=by
    rw[show nth.toNat=(nth-1).toNat+1 by omega,take_add_one,getElem?_map,e2,drop_append_of_le_length (by simp;omega),drop_eq_nil_of_le (by simp;omega)]
    rfl
   (repeat' (first|(with_reducible refine AI (by omega) ?_)|(with_reducible first|refine ab hS ?_|refine ab hF ?_)|simp only[EVz,seval,↓reduceIte,EV6,EV7,e0,e1,w1,e3]|fail))
   exact hR _ _ (Or.inl (Or.inl rfl))
abbrev stp4 (a b n m:Int):List AV:=[.int .i64 a,.int .i64 b,.int .i64 n,.int .i64 m]
set_option maxHeartbeats 1000000 in
theorem f220 (bs:Nat) (l:List Wd) (a b n m:Int) (hl:l.length<1000000) (hm0:0<=m) (hm:m<1000000000000):
  aj G Tryz.prog 220 [.sc (.pointer (some ⟨bs,0,none⟩)),.lst 4 (l.map Wd.cs)] [(bs,.cells 161 (stp4 a b n m))] λr σ'=>r= .lst 4 ((dP a b (l.map Wd.text) m).map Wd.cs)/\σ'=[(bs,.cells 161 (stp4 a b n (m+l.length)))]:=by
 have hS:=f223 G l hl
 have hM:=f122 G (l.map Wd.text) a b m (by rw[length_map];exact hl) hm0 hm
 have hml:(dP a b (l.map Wd.text) m).length=l.length:=by rw[bq,length_map]
 have w1:IntKind.i64.wrap (m+(l.length:Int))=m+l.length:=au (by omega) (by omega)
 refine aj.w c220 ?_
 unfold s220 r220 stp4
 (repeat' (first|(with_reducible first|refine ab hS ?_|refine ab hM ?_)|simp only[EVz,seval,↓reduceIte,EV6,EV7,hml,w1]|(with_reducible refine ak ?_ ?_)|(with_reducible refine am ?_)|fail))
 all_goals exact RET.mk (SubN.refl _) ⟨rfl,rfl⟩
end
end Go.Av
