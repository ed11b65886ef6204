/-
  ENACT, M32: an item of any kind applied.
-/
import Derived.Test.YtcecmifknojgeaaGreatDoorXM27toXM31
import Derived.Test.YtcecmifknojgeaaGreatDoorXE14toXC7
import Derived.Test.YtcecmifknojgeaaGreatDoorXN1toXN0
import Derived.Test.YtcecmifknojgeaaGreatDoorXE9toXE11
namespace Go.Av
open Go Go.RowKit Go.Proofs List
set_option linter.unusedSimpArgs false
set_option linter.unusedVariables false
theorem doP_two (u:U) (d:Dd) (hc:chg d.it.kind=true) (q:U×Int) (h:d.it.may=true->(one u d.it.at_).2=0->(d.it.kind=0\/(one u d.it.at_).1≠u.id)->doP u d=q):
  doP u d=if d.it.may=false then (u,1)else if (one u d.it.at_).2≠0 then (u,(one u d.it.at_).2)else if d.it.kind=0\/(one u d.it.at_).1≠u.id then q else if d.it.kind=6/\(one u d.it.to_).2≠0 then (u,(one u d.it.to_).2)else (u,9):=by
 by_cases hm:d.it.may=false
 ·rw[if_pos hm];unfold doP;rw[if_pos (.inr hm)]
 ·rw[if_neg hm]
  have hm':d.it.may=true:=by simpa using hm
  by_cases ho:(one u d.it.at_).2=0
  ·rw[if_neg (by simpa using ho)]
   by_cases g:d.it.kind=0\/(one u d.it.at_).1≠u.id
   ·rw[if_pos g,h hm' ho g]
   ·rw[if_neg g]
    rw[not_or,Classical.not_not]at g
    unfold doP
    rw[if_neg (by simp[hc,hm']),if_neg (by simpa using ho),if_neg g.1,if_pos g.2]
  ·rw[if_pos ho];unfold doP;rw[if_neg (by simp[hc,hm']),if_pos ho]
section
variable (G:Glob) (hG:GOk G)
include hG
theorem f14 (u:U) (hu:Good u) (d:Dd) (hs:d.it.Shorts):Pure G Tryz.prog 14 [.agg u.cs,.agg d.cs] (aQ (doP u d)):=by
 by_cases hk:0<=d.it.kind/\d.it.kind<=6
 case neg=>
  have hc:chg d.it.kind=false:=by unfold chg;simp;omega
  have e:doP u d=(u,1):=by unfold doP;rw[if_pos (.inl hc)]
  rw[e]
  exact pI G u hu d hk
 have hc:chg d.it.kind=true:=by unfold chg;simp;omega
 obtain⟨q1,_⟩:=(Itm.Shorts_eq d.it).1 hs
 have hid:=bU (u:=u) (p:=d.it.at_)
 have hf1:(one u d.it.at_).2=0->(fnd (one u d.it.at_).1 u).id=(one u d.it.at_).1:=λh=>(dj u hu.nd (hid h)).1
 have hw:(one u d.it.at_).2=0->(fnd (one u d.it.at_).1 u).words.length<=256:=λh=>(dk (hu.node _ (aM u hu.nd (hid h)))).words.1
 have hh:d.it.kind=0\/d.it.kind=1\/d.it.kind=2\/d.it.kind=3\/d.it.kind=4\/d.it.kind=5\/d.it.kind=6:=by omega
 have go:∀fn q,aX d.it.kind fS=some (fnv fn)->(d.it.may=true->(one u d.it.at_).2=0->(d.it.kind=0\/(one u d.it.at_).1≠u.id)->doP u d=q)->(d.it.may=true->(one u d.it.at_).2=0->(d.it.kind=0\/(one u d.it.at_).1≠u.id)->Pure G Tryz.prog fn [.agg u.cs,.agg (fnd (one u d.it.at_).1 u).cs,.agg d.cs] (aQ q))->Pure G Tryz.prog 14 [.agg u.cs,.agg d.cs] (aQ (doP u d)):=by
  intro fn q h1 h2 h3
  rw[doP_two u d hc q h2]
  exact apply_of G hG u hu d hs fn h1 q h3
 have hdo:d.it.may=true->(one u d.it.at_).2=0->(d.it.kind=0\/(one u d.it.at_).1≠u.id)->d.it.kind≠0->(one u d.it.at_).1≠u.id:=λ_ _ h h0=>h.resolve_left h0
 rcases hh with h|h|h|h|h|h|h
 ·refine go 59 (insP u (one u d.it.at_).1 d) (by rw[h];rfl) (λhm ho _=>?_) (λhm ho _=>?_)
  ·unfold doP;rw[if_neg (by simp[hc,hm]),if_neg (by simpa using ho),if_pos h]
  ·obtain⟨w0,w3⟩:=eM hm (.inl h)
   exact f59 G hG u hu _ d _ (Prod.ext rfl ho) h w0 w3 ⟨fh hm h,gH hm h⟩ q1.at_ q1.to_
 ·refine go 60 (without (one u d.it.at_).1 u,0) (by rw[h];rfl) (λhm ho hx=>?_) (λhm ho hx=>?_)
  ·have h1:=hdo hm ho hx (by omega)
   unfold doP;rw[if_neg (by simp[hc,hm]),if_neg (by simpa using ho),if_neg (by omega),if_neg h1,if_pos h]
  ·have h1:=hdo hm ho hx (by omega)
   have:=f60 G u hu (fnd (one u d.it.at_).1 u) (by rw[hf1 ho];exact hid ho) (by rw[hf1 ho];exact λe=>h1 e.symm) d
   rw[hf1 ho]at this
   exact this
 ·refine go 61 (if (editE (fnd (one u d.it.at_).1 u).words d.it d.act d.item).2≠0 then (u,(editE (fnd (one u d.it.at_).1 u).words d.it d.act d.item).2)else (U.wth (one u d.it.at_).1 (λy=>{y with words:=(editE (fnd (one u d.it.at_).1 u).words d.it d.act d.item).1}) u,0)) (by rw[h];rfl) (λhm ho hx=>?_) (λhm ho hx=>?_)
  rotate_left
  ·obtain⟨m1,m2,m3,m4,m5⟩:=ja hm (.inl h)
   have h1:=hdo hm ho hx (by omega)
   have:=f61 G u hu (fnd (one u d.it.at_).1 u) (by rw[hf1 ho];exact hid ho) d (hw ho) h (m4 h) m1 m2 m3
   rw[hf1 ho]at this
   exact this
  ·have h1:=hdo hm ho hx (by omega)
   unfold doP;rw[if_neg (by simp[hc,hm]),if_neg (by simpa using ho),if_neg (by omega),if_neg h1,if_neg (by omega),if_pos (.inl h)]
 ·refine go 62 (if (editE (fnd (one u d.it.at_).1 u).words d.it d.act d.item).2≠0 then (u,(editE (fnd (one u d.it.at_).1 u).words d.it d.act d.item).2)else (U.wth (one u d.it.at_).1 (λy=>{y with words:=(editE (fnd (one u d.it.at_).1 u).words d.it d.act d.item).1}) u,0)) (by rw[h];rfl) (λhm ho hx=>?_) (λhm ho hx=>?_)
  rotate_left
  ·obtain⟨m1,m2,m3,m4,m5⟩:=ja hm (.inr h)
   have h1:=hdo hm ho hx (by omega)
   have:=f62 G u hu (fnd (one u d.it.at_).1 u) (by rw[hf1 ho];exact hid ho) d (hw ho) h m1 m2 (m5 h).1 m3 (m5 h).2
   rw[hf1 ho]at this
   exact this
  ·have h1:=hdo hm ho hx (by omega)
   unfold doP;rw[if_neg (by simp[hc,hm]),if_neg (by simpa using ho),if_neg (by omega),if_neg h1,if_neg (by omega),if_pos (.inr h)]
 ·refine go 63 (U.wth (one u d.it.at_).1 (λy=>{y with head:=markW d.act d.item d.it.new 0}) u,0) (by rw[h];rfl) (λhm ho hx=>?_) (λhm ho hx=>?_)
  rotate_left
  ·have:=f63 G u hu (fnd (one u d.it.at_).1 u) (by rw[hf1 ho];exact hid ho) d (lF hm h)
   rw[hf1 ho]at this
   exact this
  ·have h1:=hdo hm ho hx (by omega)
   unfold doP;rw[if_neg (by simp[hc,hm]),if_neg (by simpa using ho),if_neg (by omega),if_neg h1,if_neg (by omega),if_neg (by omega),if_pos h]
 ·refine go 64 (if bJ (parR (one u d.it.at_).1 u).1 (parR (one u d.it.at_).1 u).1.kids {fnd (one u d.it.at_).1 u with label:=d.it.label}=10 then (u,10)else (U.wth (one u d.it.at_).1 (λy=>{y with label:=d.it.label}) u,0)) (by rw[h];rfl) (λhm ho hx=>?_) (λhm ho hx=>?_)
  rotate_left
  ·have h1:=hdo hm ho hx (by omega)
   have:=f64 G hG u hu (fnd (one u d.it.at_).1 u) (by rw[hf1 ho]) (by rw[hf1 ho];exact hid ho) (by rw[hf1 ho];exact λe=>h1 e.symm) d
   rw[hf1 ho]at this
   exact this
  ·have h1:=hdo hm ho hx (by omega)
   unfold doP;rw[if_neg (by simp[hc,hm]),if_neg (by simpa using ho),if_neg (by omega),if_neg h1,if_neg (by omega),if_neg (by omega),if_neg (by omega),if_pos h]
 ·refine go 65 (if (one u d.it.to_).2≠0 then (u,(one u d.it.to_).2)else movP u (one u d.it.at_).1 (one u d.it.to_).1 d) (by rw[h];rfl) (λhm ho hx=>?_) (λhm ho hx=>?_)
  rotate_left
  ·have h1:=hdo hm ho hx (by omega)
   obtain⟨w0,w3⟩:=eM hm (.inr h)
   exact f65 G hG u hu d _ (Prod.ext rfl ho) (λe=>h1 e.symm) h w0 w3 q1.at_ q1.to_
  ·have h1:=hdo hm ho hx (by omega)
   unfold doP;rw[if_neg (by simp[hc,hm]),if_neg (by simpa using ho),if_neg (by omega),if_neg h1,if_neg (by omega),if_neg (by omega),if_neg (by omega),if_neg (by omega)]
end
theorem jH {e:TypeId} {sz bytes m:Nat} {g:Option Nat} {rows ys:List (List AV)} {K:AV->Store->Prop} (pre κ:Store) (hp:∀p∈pre,p.1∉Store.keys (κ++tokS g e m)) (hg:∀b,g=some b->b∉κ.keys) (hm:m=rows.length*sz) (hnd:κ.keys.Nodup) (hb:(rows.length+ys.length)*bytes<=140737488355328)
  (hk:∀g',(∀b,g'=some b->b∉κ.keys)->K (.own g' e sz (rows++ys)) (κ++tokS g' e ((rows++ys).length*sz))):appX e sz bytes (pre++(κ++tokS g e m)) g rows ys K:=by
 subst hm
 refine fR κ (λb h=>?_) hb ⟨λq hq=>?_,λ_=>hnd⟩ hk
 ·have h1:=tokF (e:=e) (m:=rows.length*sz) hg b h
  have hkey:b∈Store.keys (κ++tokS g e (rows.length*sz)):=mem_map.2 ⟨_,Store.get_mem h1,rfl⟩
  rw[ao]
  ·exact h1
  ·intro hm
   obtain⟨p,hp1,rfl⟩:=mem_map.1 hm
   exact hp p hp1 hkey
 ·cases g with
  |none=>exact mem_append.2 (.inr (mem_append.2 (.inl hq)))
  |some b=>
   refine mem_filter.2 ⟨mem_append.2 (.inr (mem_append.2 (.inl hq))),?_⟩
   have:q.1≠b:=λh=>hg b rfl (by rw[←h];exact mem_map.2 ⟨q,hq,rfl⟩)
   simpa using this
def jc (q:U×List Ms):AV:=.tup [.agg q.1.cs,.lst 3 (q.2.map Ms.cs)]
theorem chg_inR (k:Int):inR k 0 6=chg k:=rfl
section
variable (G:Glob) (hG:GOk G)
include hG
set_option maxHeartbeats 4000000 in
theorem f17 (u:U) (hu:Good u) (l:List Dd) (hl:l.length<1000000) (hs:∀d∈l,d.it.Shorts):Pure G Tryz.prog 17 [.agg u.cs,.lst 28 (l.map Dd.cs)] (jc (allP u l)):=by
 refine Pure.w c17 λR hR=>?_
 unfold s17 r17
 unfold jc at hR
 (repeat' (first|simp only[EVz,seval,↓reduceIte,EV6,EV7]|(with_reducible intro blk hblk;(try(have hnx:=hblk;simp only[EVK]at hnx;first|(have hne:=AI hnx hne)|(have hne:=hnx))))|fail))
 rename_i b2 _ _ _
 generalize hbe:blk=b4 at*
 have q1:¬b4=b2:=by simpa[Store.keys]using hblk
 have q1':¬b2=b4:=λe=>q1 e.symm
 refine Zq (ι:=U×List Ms×Option Nat) l (λi r c=>Good c.1/\allP u l=((allP c.1 r).1,c.2.1++(allP c.1 r).2)/\c.2.1.length<=i/\(∀d,c.2.2=some d->d∉Store.keys [(b4,AObj.cells 27 zU),(b2,.cells 27 zU)])) (λi c=>[(2,.sc (.pointer (some ⟨b2,0,none⟩))),(4,.sc (.pointer (some ⟨b4,0,none⟩))),(6,.own c.2.2 91 3 (c.2.1.map Ms.cs)),(11,.lst 28 (l.map Dd.cs)),(12,.int .i64 l.length),(13,.int .i64 i)]) (λi c=>[(b4,.cells 27 zU),(b2,.cells 27 c.1.cs)]++tokS c.2.2 91 (c.2.1.length*3)) (u,[],none) ⟨hu,by simp,by simp,by simp⟩ (Weak.of (by simp[cQ,Env.get,AVle,aP]) (SubN.refl _)) (by omega) (λi x r c hok hx hw=>?_) (λc hok hn=>?_)
 ·obtain⟨o1,o2,o3,o4⟩:=hok
  have hI:=f41 G x.it.kind
  rw[chg_inR]at hI
  have hA:=f14 G hG c.1 o1 x (hs x hx.mem)
  have hst:=fJ o1 x
  have hil:=hx.lt
  rw[ie]at o2
  unfold aQ at hA
  unfold dJ at o2 hst
  cases hc:chg x.it.kind with
  |false=>
   rw[hc]at hI
   rw[hc,if_pos rfl]at o2 hst
   (repeat' (first|(with_reducible refine ab hI ?_)|simp only[EVz,seval,↓reduceIte,EV6,EV7,hx.yes,hx.le0,hx.lt',hx.get,hx.row,hw,Dd.cs,Itm.cs_eq,hne]|(with_reducible intro blk hblk;(try(have hnx:=hblk;simp only[EVK]at hnx;(have hne:=AI hnx hne))))|fail))
   exact af hx c ⟨o1,by simpa using o2,by omega,o4⟩ (Weak.sub (SubN.tail (SubN.refl _) _))
  |true=>
   rw[hc]at hI
   rw[hc,if_neg (by simp)]at o2 hst
   obtain⟨⟨v,e⟩,hve⟩:∃z,doP c.1 x=z:=⟨_,rfl⟩
   rw[hve]at hA o2 hst
   unfold lu at o2 hst
   simp only[Dd.cs,Itm.cs_eq]at hA
   rcases Classical.em (e=0)with he|he
   ·subst he
    (repeat' (first|(with_reducible first|refine ab hI ?_|refine ab hA ?_)|simp only[EVz,seval,↓reduceIte,EV6,EV7,hx.yes,hx.le0,hx.lt',hx.get,hx.row,hw,Dd.cs,Itm.cs_eq,hne]|(with_reducible intro blk hblk;(try(have hnx:=hblk;simp only[EVK]at hnx;(have hne:=AI hnx hne))))|fail))
    exact af hx (v,c.2.1,c.2.2) ⟨hst.1,by simpa using o2,Nat.le_succ_of_le o3,o4⟩ (Weak.sub (SubN.tail (SubN.tail (SubN.refl _) _) _))
   ·(repeat' (first|(with_reducible (refine ae (λh=>?_) (λh=>?_))<;>(try simp only[Da,Db,Dc,Dw,De,Df,Dg,Dh]at h))|(with_reducible first|refine ab hI ?_|refine ab hA ?_)|simp only[EVz,seval,↓reduceIte,EV6,EV7,hx.yes,hx.le0,hx.lt',hx.get,hx.row,hw,Dd.cs,Itm.cs_eq,he,hne]|(with_reducible intro blk hblk;(try(have hnx:=hblk;simp only[EVK]at hnx;(have hne:=AI hnx hne))))|(exfalso;omega)|fail))
    clear hA hI
    rename_i b8 _ _ _ b9 _ _ _
    obtain⟨n1,n2,n3,n4⟩:=hne
    have hm3:∀d,c.2.2=some d->d∈(tokS c.2.2 91 (c.2.1.length*3)).keys:=by
     intro d hd
     rw[hd]
     simp[tokS,Store.keys]
    refine⟨[Ms.cs ⟨x.act,x.item,e⟩],rfl,by simp[Ms.cs],by simp[Ms.cs],?_⟩
    refine jH (sz:=3) (bytes:=24) (rows:=c.2.1.map Ms.cs) (ys:=[Ms.cs ⟨x.act,x.item,e⟩]) (m:=c.2.1.length*3) [(blk,_)] [(b9,_),(b8,_),(b4,_),(b2,_)] ?_ ?_ (by rw[length_map]) ?_ (by rw[length_map];simp;omega) (λgn hgn=>?_)
    ·intro p hp
     simp only[mem_singleton]at hp
     subst hp
     simp[Store.keys,n1]
     simpa[Store.keys]using n1.2.2.2.2
    ·intro d hd
     have h1:=hm3 d hd
     have h2:=o4 d hd
     simp[Store.keys]at h2 ⊢
     refine⟨λq=>n2.2.2.2 (q ▸ h1),λq=>n3.2.2 (q ▸ h1),h2.1,h2.2⟩
    ·simp[Store.keys,n2,n3,q1]
    (repeat' (simp only[EVz,seval,↓reduceIte,EV6,EV7,n1,n2,n3,q1,q1',hw,hne]))
    refine af hx (v,c.2.1++[⟨x.act,x.item,e⟩],gn) ⟨hst.1,by simpa[he]using o2,?_,?_⟩ ?_
    ·rw[length_append];exact Nat.succ_le_succ o3
    ·intro d hd
     have:=hgn d hd
     simp[Store.keys]at this ⊢
     exact⟨this.2.2.1,this.2.2.2⟩
    ·simp only[map_append,map_cons,map_nil,length_append,length_map,length_cons,length_nil]
     exact Weak.sub (SubN.tail (SubN.tail (SubN.refl _) _) _)
 ·(repeat' (simp only[EVz,seval,↓reduceIte,EV6,EV7,hn,hne]))
  obtain⟨o1,o2,o3,o4⟩:=hok
  simp only[allP,append_nil]at o2
  rw[o2]at hR
  exact hR _ _ (.inr ⟨aP.rfl' _,.inr ⟨rfl,rfl⟩,trivial⟩)
end
def exW:List Wd:=[⟨[97],0,0,0⟩,⟨[98],0,0,0⟩,⟨[97],0,0,0⟩]
def eS:U:=⟨zId,2,[53],[],exW,[]⟩
def exNo:U:=⟨zId,0,[],[],[],[]⟩
def exI1:Itm:=⟨0,[],[],1,0,eS,[],[],[],[],⟨0,0,[]⟩,0,0,0,[],[]⟩
def exI2:Itm:=⟨2,[⟨2,[53]⟩],[],0,0,exNo,[[97]],[[99]],[],[],⟨0,0,[]⟩,0,0,0,[],[]⟩
def exDs:List Dd:=[⟨1,0,0,exI1⟩,⟨2,0,0,exI2⟩]
def exV:U:=⟨zId,0,[],[],[],[⟨⟨1,0,1⟩,2,[53],[],[⟨[99],2,0,0⟩,⟨[98],1,0,1⟩,⟨[99],2,0,1⟩],[]⟩]⟩
set_option maxRecDepth 100000 in
theorem ex_all:allP iu exDs=(exV,[]):=by kernel_rfl
theorem nX:exNo.Short:=by
 have hf:exNo.fit:=(U.fit_eq _).2 ⟨by decide,⟨by decide,by simp[exNo]⟩,⟨by decide,by simp[exNo]⟩,by decide,by simp[exNo]⟩
 have hl:exNo.flat=[exNo]:=by rw[U.flat_eq];show exNo::U.flats []=_;rw[U.flats]
 refine⟨⟨hf,by rw[hl];decide⟩,?_⟩
 rw[hl]
 intro x hx
 simp only[mem_singleton]at hx
 subst hx
 exact⟨by decide,by decide,by decide,by simp[exNo],by simp[exNo]⟩
theorem ll:eS.Short:=by
 have hf:eS.fit:=(U.fit_eq _).2 ⟨by decide,⟨by decide,by simp[eS]⟩,⟨by decide,by simp[eS,exW]⟩,by decide,by simp[eS]⟩
 have hl:eS.flat=[eS]:=by rw[U.flat_eq];show eS::U.flats []=_;rw[U.flats]
 refine⟨⟨hf,by rw[hl];decide⟩,?_⟩
 rw[hl]
 intro x hx
 simp only[mem_singleton]at hx
 subst hx
 exact⟨by decide,by decide,by decide,by simp[eS],by simp[eS,exW]⟩
theorem short_I1:exI1.Shorts:=(Itm.Shorts_eq _).2 ⟨⟨(Itm.fit_eq _).2 ⟨by decide,by decide,ll.1.1,by decide,by decide,by decide,by simp[exI1]⟩,ll,by decide,by decide,by simp[exI1],by simp[exI1],by decide,by decide,by decide,by decide,by decide,by decide⟩,by simp[exI1]⟩
theorem short_I2:exI2.Shorts:=(Itm.Shorts_eq _).2 ⟨⟨(Itm.fit_eq _).2 ⟨by decide,by decide,nX.1.1,by decide,by decide,by decide,by simp[exI2]⟩,nX,by decide,by decide,by simp[exI2],by simp[exI2],by decide,by decide,by decide,by decide,by decide,by decide⟩,by simp[exI2]⟩
def exR1 (b:Nat):List AV:=[.int .i64 1,.int .i64 0,.int .i64 0,.int .i64 0,.nil,.nil,.int .i64 1,.int .i64 0,.int .i64 0,.int .i64 0,.int .i64 0,.int .i64 2,.str [53],.nil,.own (some b) 64 4 [[.str [97],.int .i64 0,.int .i64 0,.int .i64 0],[.str [98],.int .i64 0,.int .i64 0,.int .i64 0],[.str [97],.int .i64 0,.int .i64 0,.int .i64 0]],.nil,.nil,.nil,.str [],.str [],.int .i64 0,.int .i64 0,.str [],.int .i64 0,.int .i64 0,.int .i64 0,.str [],.nil]
def exR2 (b c:Nat):List AV:=[.int .i64 2,.int .i64 0,.int .i64 0,.int .i64 2,.lst 2 [[.int .i64 2,.str [53]]],.nil,.int .i64 0,.int .i64 0,.int .i64 0,.int .i64 0,.int .i64 0,.int .i64 0,.str [],.nil,.nil,.nil,.own (some b) 9 1 [[.str [97]]],.own (some c) 9 1 [[.str [99]]],.str [],.str [],.int .i64 0,.int .i64 0,.str [],.int .i64 0,.int .i64 0,.int .i64 0,.str [],.nil]
theorem le_R1 (b:Nat):LeReps (exR1 b) (Dd.cs ⟨1,0,0,exI1⟩):=by
 unfold exR1 Dd.cs
 rw[Itm.cs_eq]
 repeat' first
  |exact LeReps.nil
  |refine LeReps.cons ?_ ?_
 all_goals first|exact LeRep.refl _|exact LeRep.nil|exact LeRep.own (LeRows.refl _)
theorem le_R2 (b c:Nat):LeReps (exR2 b c) (Dd.cs ⟨2,0,0,exI2⟩):=by
 unfold exR2 Dd.cs
 rw[Itm.cs_eq]
 repeat' first
  |exact LeReps.nil
  |refine LeReps.cons ?_ ?_
 all_goals first|exact LeRep.refl _|exact LeRep.nil|exact LeRep.own (LeRows.refl _)
theorem le_zU:LeRep (.agg zU) (.agg iu.cs):=by
 refine LeRep.agg ?_
 rw[U.cs_eq]
 unfold zU
 repeat' first
  |exact LeReps.nil
  |refine LeReps.cons ?_ ?_
 all_goals first|exact LeRep.refl _|exact LeRep.nil
def exAV:AV:=.tup [.agg [.int .i64 0,.int .i64 0,.int .i64 0,.int .i64 0,.str [],.lst 4 [],.lst 4 [],.lst 8 [[.int .i64 1,.int .i64 0,.int .i64 1,.int .i64 2,.str [53],.lst 4 [],.lst 4 [[.str [99],.int .i64 2,.int .i64 0,.int .i64 0],[.str [98],.int .i64 1,.int .i64 0,.int .i64 1],[.str [99],.int .i64 2,.int .i64 0,.int .i64 1]],.lst 8 []]]],.lst 3 []]
theorem ex_av:jc (exV,[])=exAV:=by kernel_rfl
theorem ex_len1 (s:List UInt8):∀r∈[[AV.str s]],r.length=1:=by
 intro r hr
 simp only[mem_singleton]at hr
 subst hr;rfl
theorem sub_one {p:Nat×AObj} {σ:Store} (h:p∈σ):SubN [p] σ:=⟨λq hq=>by simp only[mem_singleton]at hq;subst hq;exact h,λ_=>by simp[Store.keys]⟩
theorem ex_len (b c d:Nat):∀r∈[exR1 b,exR2 c d],r.length=28:=by
 intro r hr
 simp only[mem_cons,not_mem_nil,or_false]at hr
 rcases hr with rfl|rfl<;>rfl
section
variable (G:Glob) (hG:GOk G)
theorem f21:Pure G Tryz.prog 21 [] (.agg zU):=by
 refine Pure.w c21 λR hR=>?_
 unfold s21 r21
 (repeat' (first|simp only[EVz,seval,↓reduceIte,EV6,EV7]|(with_reducible intro blk hblk;(try(have hnx:=hblk;simp only[EVK]at hnx;(have hne:=hnx))))|fail))
 all_goals exact RQ hR
theorem f32:Pure G Tryz.prog 32 [] (.lst 2 [[.int .i64 2,.str [53]]]):=by
 refine Pure.w c32 λR hR=>?_
 unfold s32 r32
 (repeat' (first|simp only[EVz,seval,↓reduceIte,EV6,EV7]|(with_reducible intro blk hblk;(try(have hnx:=hblk;simp only[EVK]at hnx;(have hne:=hnx))))|(refine⟨[[.int .i64 2,.str [53]]],rfl,(by simp),rfl,?_⟩)|fail))
 all_goals exact hR _ _ (.inl (.inr ⟨rfl,rfl⟩))
include hG
theorem ex_call (b c d e:Nat):Pure G Tryz.prog 17 [.agg zU,.own (some e) 36 28 [exR1 b,exR2 c d]] exAV:=by
 have h:=f17 G hG iu pG exDs (by decide) (λx hx=>by
  simp only[exDs,mem_cons,not_mem_nil,or_false]at hx
  rcases hx with rfl|rfl
  ·exact short_I1
  ·exact short_I2)
 rw[ex_all,ex_av]at h
 exact h.lr (.cons le_zU (.cons (LeRep.own (.cons (le_R1 b) (.cons (le_R2 c d) .nil))) .nil))
def exWs:List (List AV):=[[.str [97],.int .i64 0,.int .i64 0,.int .i64 0],[.str [98],.int .i64 0,.int .i64 0,.int .i64 0],[.str [97],.int .i64 0,.int .i64 0,.int .i64 0]]
def exRoot:List AV:=[.int .i64 0,.int .i64 0,.int .i64 0,.int .i64 0,.str [],.lst 4 [],.lst 4 [],.lst 8 [[.int .i64 1,.int .i64 0,.int .i64 1,.int .i64 2,.str [53],.lst 4 [],.lst 4 [[.str [99],.int .i64 2,.int .i64 0,.int .i64 0],[.str [98],.int .i64 1,.int .i64 0,.int .i64 1],[.str [99],.int .i64 2,.int .i64 0,.int .i64 1]],.lst 8 []]]]
set_option maxHeartbeats 4000000 in
theorem f10:Pure G Tryz.prog 10 [] (.bool true):=by
 have hA:=ex_call G hG
 have hE:=f21 G
 unfold zU at hE
 have hS:=f32 G
 unfold exAV zU at hA
 refine Pure.w c10g λR hR=>?_
 unfold s10g r10g
 refine W_tail3 (λY hY=>?_)
 refine W_tail2 (λZ hZ=>?_)
 have hrest:∀b,W G Tryz.prog Y (retQ [(0,none)] R) [(2,.sc (.pointer (some ⟨b,0,none⟩))),(3,.lst 3 [])] [(b,.cells 27 exRoot)] ⟨⟩:=by
  intro b
  clear hZ
  subst hY
  unfold exRoot
  (repeat' (first|(with_reducible (refine ag (λh=>?_) (λh=>?_))<;>(try simp only[Da,Db,Dc,Dw,De,Df,Dg,Dh]at h))|simp only[EVz,seval,↓reduceIte,EV6,EV7]|fail))
  all_goals first
   |exact RQ hR
   |(exfalso;revert h;decide)
   |trace_state
 clear hY
 (try simp only[EVz,seval,↓reduceIte,EV6,EV7])
 intro b8 hb8
 refine⟨exWs,rfl,(by simp[exWs]),rfl,?_⟩
 unfold exWs
 (try simp only[EVz,seval,↓reduceIte,EV6,EV7])
 intro b1 hb1
 (try simp only[EVz,seval,↓reduceIte,EV6,EV7])
 refine⟨_,_,Weak.refz (j:=1) rfl,?_⟩
 (try simp only[EVz,seval,↓reduceIte,EV6,EV7])
 subst hZ
 refine W_seq0 (W_drawT0 ?_)
 repeat' (first
  |(with_reducible refine ak ?_ ?_)
  |(with_reducible refine ab hE ?_)
  |(with_reducible refine ab hS ?_)
  |(with_reducible refine ab (hA _ _ _ _) ?_)
  |simp only[EVz,seval,↓reduceIte,EV6,EV7,hne]
  |simp only[EVz,seval,↓reduceIte,EV6,EV7]
  |(with_reducible intro blk hblk;(try(have hnx:=hblk;simp only[EVK]at hnx;first|(have hne:=AI hnx hne)|(have hne:=hnx))))
  |(refine⟨[[.str [97]]],rfl,ex_len1 _,rfl,?_⟩)
  |(refine⟨[[.str [99]]],rfl,ex_len1 _,rfl,?_⟩)
  |(refine⟨[exR1 _,exR2 _ _],rfl,ex_len _ _ _,rfl,?_⟩)
  |(refine⟨_,_,Weak.sub (sub_one ?_),hrest _⟩)
  |exact mem_cons_self
  |(with_reducible refine mem_cons_of_mem _ ?_))
end
structure MvOk (u:U) (i t:Idd) (wh:Int) (P:U) (dp:Nat):Prop where
 kids:P.kids.length<=64
 dp:dp<=2000
 here:fnd P.id u=P
 out:t≠i->P.id∈(without i u).ids
 pos:t≠i->wh=2\/wh=3->∃n,firstAt (λk=>decide (k.id=t)) (fnd P.id (without i u)).kids=some n
 few:t≠i->(fnd P.id (without i u)).kids.length<=64
theorem ko {α:Type} {p:α->Bool}:∀{l:List α} {x},x∈l->p x=true->∃n,firstAt p l=some n
 |[],x,h,_=>by cases h
 |a::l,x,h,hp=>by
  rw[firstAt]
  by_cases ha:p a=true
  ·rw[if_pos ha];exact⟨0,rfl⟩
  ·rw[if_neg ha]
   rcases mem_cons.1 h with rfl|h'
   ·exact absurd hp ha
   ·obtain⟨n,e⟩:=ko h' hp
    rw[e];exact⟨n+1,rfl⟩
theorem rest_ids {u:U} (hn:u.ids.Nodup) {i:Idd} {own:U} {d j:Nat} (w1:aN i u=some (own,d,j)) (hp:Par i u own d j) {P:U} (hP:P.id∈u.ids) (hh:fnd P.id u=P) (ho:P.id∉(fnd i u).ids):
  (fnd P.id (without i u)).kids.map U.id=(cA P own j).map U.id:=by
 obtain⟨a,x,b,s,hx,hj,hl⟩:=hp.split
 have hfx:fnd i u=x:=aF hl
 rw[hfx]at ho
 subst hj
 have hW:without i u=U.wth own.id (λy=>{y with kids:=aL y.kids a.length}) u:=by unfold without;rw[w1]
 rw[hW]
 have hway:=jg (t:=P.id) hn hp s.eq ho
 obtain⟨F,hF⟩:∃F:U->U,F=λy=>{y with kids:=aL y.kids a.length}:=⟨_,rfl⟩
 rw[←hF]at hway ⊢
 have hf2:fnd P.id (U.wth own.id F u)=U.wth own.id F P:=by
  refine aF ?_
  rw[hway,getLast?_map,(dj u hn hP).2,hh]
  rfl
 rw[hf2]
 unfold cA
 by_cases hoo:own.id=P.id
 ·have e:P=own:=by rw[←hh,←hoo,hp.fnd]
  subst e
  rw[if_pos rfl,aZ rfl,hF]
 ·rw[if_neg hoo,U.wth_eq,if_neg (Ne.symm hoo)]
  simp only
  exact jM U.id (ek U.id (λy=>by rw[hF]) λ_ _=>rfl) P.kids
theorem mv_ok {u:U} (hu:Good u) {i t:Idd} (hi:i∈u.ids) (hiu:i≠u.id) {wh:Int} {P:U} {dp k:Nat} (g:Goal u t wh P dp k) (ht:t≠i->t∉(fnd i u).ids):MvOk u i t wh P dp:=by
 have hpf:P∈u.flat:=by
  have:=aM u hu.nd g.mem
  rw[g.here]at this;exact this
 have hk:=cl (hu.node _ hpf)
 obtain⟨own,d,j,w1,w2,hp⟩:=aW hu.nd hi (Ne.symm hiu)
 obtain⟨hg1,-,-,A,B,-,hA,hB⟩:=ff hu hi (Ne.symm hiu)
 have hout:t≠i->P.id∈(without i u).ids:=by
  intro h
  have h1:=g.out i hi (ht h)
  have h2:=g.mem
  rw[hA,mem_append,mem_append]at h2
  rw[hB,mem_append]
  rcases h2 with h2|h2|h2
  ·exact .inl h2
  ·exact absurd h2 h1
  ·exact .inr h2
 refine⟨hk,?_,g.here,hout,?_,?_⟩
 ·have h1:=(jf (f:=λy=>y) u hu.nd g.mem).2
  have h2:=g.deep
  have h3:=hu.dep
  omega
 ·intro h hw
  have hr:=rest_ids hu.nd w1 hp g.mem g.here (g.out i hi (ht h))
  have hpos:=g.pos
  rcases hpos with⟨e,_⟩|⟨e,_⟩|⟨_,j',a,y,b,e1,e2,e3,e4,_⟩
  ·omega
  ·omega
  ·have hm:t∈(cA P own j).map U.id:=by
    unfold cA
    split
    ·next ho=>
     have e:P=own:=by rw[←g.here,←ho,hp.fnd]
     obtain⟨a',x,b',s,hx,hj,hl⟩:=hp.split
     subst e
     subst hj
     rw[s.eq,bG]
     have:y∈a'++x::b':=by rw[←s.eq,e1];simp
     rw[mem_map]
     refine⟨y,?_,e2⟩
     rw[mem_append,mem_cons]at this
     rw[mem_append]
     rcases this with h1|rfl|h1
     ·exact .inl h1
     ·exact absurd (e2.symm.trans hx) h
     ·exact .inr h1
    ·rw[e1]
     exact mem_map.2 ⟨y,by simp,e2⟩
   rw[←hr,mem_map]at hm
   obtain⟨z,hz,he⟩:=hm
   exact ko hz (decide_eq_true he)
 ·intro h
  have:=aM (without i u) hg1.nd (hout h)
  exact cl (hg1.node _ this)
end Go.Av
