/-
  ENACT, M32: an item of any kind applied.
-/
import Derived.Test.YtnoakpkjccigoaaGreatDoorXM29toXV11
import Derived.Test.YtnoakpkjccigoaaGreatDoorXM4toXE16
import Derived.Test.YtnoakpkjccigoaaGreatDoorXU7toXN0
import Derived.Test.YtnoakpkjccigoaaGreatDoorXFrNtoXL19
import Derived.Test.YtnoakpkjccigoaaGreatDoorXAv21toXAv25
import Derived.Test.YtnoakpkjccigoaaGreatDoorXE7toXP1
import Derived.Test.YtnoakpkjccigoaaGreatDoorXL34toXM3
import Derived.Test.YtnoakpkjccigoaaGreatDoorXL20toXOpI
namespace Go.Av
open Go Go.RowKit Go.Proofs List
set_option linter.unusedSimpArgs false
set_option linter.unusedVariables false
theorem doP_two (u:U) (d:Dd) (hc:chg d.it.kind=true) (q:U×Int) (h:d.it.may=true->(one u d.it.at_).2=0->(d.it.kind=0\/(one u d.it.at_).1≠u.id)->doP u d=q):
  doP u d=if d.it.may=false then (u,1)else if (one u d.it.at_).2≠0 then (u,(one u d.it.at_).2)else if d.it.kind=0\/(one u d.it.at_).1≠u.id then q else if d.it.kind=6/\(one u d.it.to_).2≠0 then (u,(one u d.it.to_).2)else (u,9):=by
 by_cases hm:d.it.may=false
 ·rw[if_pos hm];unfold doP;rw[if_pos (.inr hm)]
 ·rw[if_neg hm]
  have hm':d.it.may=true:=by simpa using hm
  by_cases ho:(one u d.it.at_).2=0
  ·rw[if_neg (by simpa using ho)]
   by_cases g:d.it.kind=0\/(one u d.it.at_).1≠u.id
   ·rw[if_pos g,h hm' ho g]
   ·rw[if_neg g]
    rw[not_or,Classical.not_not]at g
    unfold doP
    rw[if_neg (by simp[hc,hm']),if_neg (by simpa using ho),if_neg g.1,if_pos g.2]
  ·rw[if_pos ho];unfold doP;rw[if_neg (by simp[hc,hm']),if_pos ho]
section
variable (G:Glob) (hG:GOk G)
include hG
theorem f18 (u:U) (hu:Good u) (d:Dd) (hs:d.it.Shorts):Pure G Tryz.prog 18 [.agg u.cs,.agg d.cs] (aO (doP u d)):=by
 by_cases hk:0<=d.it.kind/\d.it.kind<=6
 case neg=>
  have hc:chg d.it.kind=false:=by unfold chg;simp;omega
  have e:doP u d=(u,1):=by unfold doP;rw[if_pos (.inl hc)]
  rw[e]
  exact oK G u hu d hk
 have hc:chg d.it.kind=true:=by unfold chg;simp;omega
 obtain⟨q1,_⟩:=(Itm.Shorts_eq d.it).1 hs
 have hid:=bZ (u:=u) (p:=d.it.at_)
 have hf1:(one u d.it.at_).2=0->(fnd (one u d.it.at_).1 u).id=(one u d.it.at_).1:=λh=>(cS u hu.nd (hid h)).1
 have hw:(one u d.it.at_).2=0->(fnd (one u d.it.at_).1 u).words.length<=256:=λh=>(dN (hu.node _ (aP u hu.nd (hid h)))).words.1
 have hh:d.it.kind=0\/d.it.kind=1\/d.it.kind=2\/d.it.kind=3\/d.it.kind=4\/d.it.kind=5\/d.it.kind=6:=by omega
 have go:∀fn q,aS d.it.kind fc=some (fnv fn)->(d.it.may=true->(one u d.it.at_).2=0->(d.it.kind=0\/(one u d.it.at_).1≠u.id)->doP u d=q)->(d.it.may=true->(one u d.it.at_).2=0->(d.it.kind=0\/(one u d.it.at_).1≠u.id)->Pure G Tryz.prog fn [.agg u.cs,.agg (fnd (one u d.it.at_).1 u).cs,.agg d.cs] (aO q))->Pure G Tryz.prog 18 [.agg u.cs,.agg d.cs] (aO (doP u d)):=by
  intro fn q h1 h2 h3
  rw[doP_two u d hc q h2]
  exact apply_of G hG u hu d hs fn h1 q h3
 have hdo:d.it.may=true->(one u d.it.at_).2=0->(d.it.kind=0\/(one u d.it.at_).1≠u.id)->d.it.kind≠0->(one u d.it.at_).1≠u.id:=λ_ _ h h0=>h.resolve_left h0
 rcases hh with h|h|h|h|h|h|h
 ·refine go 92 (insP u (one u d.it.at_).1 d) (by rw[h];rfl) (λhm ho _=>?_) (λhm ho _=>?_)
  ·unfold doP;rw[if_neg (by simp[hc,hm]),if_neg (by simpa using ho),if_pos h]
  ·obtain⟨w0,w3⟩:=fd hm (.inl h)
   exact f92 G hG u hu _ d _ (Prod.ext rfl ho) h w0 w3 ⟨kD hm h,may_cnt hm h⟩ q1.at_ q1.to_
 ·refine go 93 (without (one u d.it.at_).1 u,0) (by rw[h];rfl) (λhm ho hx=>?_) (λhm ho hx=>?_)
  ·have h1:=hdo hm ho hx (by omega)
   unfold doP;rw[if_neg (by simp[hc,hm]),if_neg (by simpa using ho),if_neg (by omega),if_neg h1,if_pos h]
  ·have h1:=hdo hm ho hx (by omega)
   have:=f93 G u hu (fnd (one u d.it.at_).1 u) (by rw[hf1 ho];exact hid ho) (by rw[hf1 ho];exact λe=>h1 e.symm) d
   rw[hf1 ho]at this
   exact this
 ·refine go 94 (if (bJ (fnd (one u d.it.at_).1 u).words d.it d.act d.item).2≠0 then (u,(bJ (fnd (one u d.it.at_).1 u).words d.it d.act d.item).2)else (U.wth (one u d.it.at_).1 (λy=>{y with words:=(bJ (fnd (one u d.it.at_).1 u).words d.it d.act d.item).1}) u,0)) (by rw[h];rfl) (λhm ho hx=>?_) (λhm ho hx=>?_)
  rotate_left
  ·obtain⟨m1,m2,m3,m4,m5⟩:=ns hm (.inl h)
   have h1:=hdo hm ho hx (by omega)
   have:=f94 G u hu (fnd (one u d.it.at_).1 u) (by rw[hf1 ho];exact hid ho) d (hw ho) h (m4 h) m1 m2 m3
   rw[hf1 ho]at this
   exact this
  ·have h1:=hdo hm ho hx (by omega)
   unfold doP;rw[if_neg (by simp[hc,hm]),if_neg (by simpa using ho),if_neg (by omega),if_neg h1,if_neg (by omega),if_pos (.inl h)]
 ·refine go 95 (if (bJ (fnd (one u d.it.at_).1 u).words d.it d.act d.item).2≠0 then (u,(bJ (fnd (one u d.it.at_).1 u).words d.it d.act d.item).2)else (U.wth (one u d.it.at_).1 (λy=>{y with words:=(bJ (fnd (one u d.it.at_).1 u).words d.it d.act d.item).1}) u,0)) (by rw[h];rfl) (λhm ho hx=>?_) (λhm ho hx=>?_)
  rotate_left
  ·obtain⟨m1,m2,m3,m4,m5⟩:=ns hm (.inr h)
   have h1:=hdo hm ho hx (by omega)
   have:=f95 G u hu (fnd (one u d.it.at_).1 u) (by rw[hf1 ho];exact hid ho) d (hw ho) h m1 m2 (m5 h).1 m3 (m5 h).2
   rw[hf1 ho]at this
   exact this
  ·have h1:=hdo hm ho hx (by omega)
   unfold doP;rw[if_neg (by simp[hc,hm]),if_neg (by simpa using ho),if_neg (by omega),if_neg h1,if_neg (by omega),if_pos (.inr h)]
 ·refine go 96 (U.wth (one u d.it.at_).1 (λy=>{y with head:=aX d.act d.item d.it.new 0}) u,0) (by rw[h];rfl) (λhm ho hx=>?_) (λhm ho hx=>?_)
  rotate_left
  ·have:=f96 G u hu (fnd (one u d.it.at_).1 u) (by rw[hf1 ho];exact hid ho) d (oM hm h)
   rw[hf1 ho]at this
   exact this
  ·have h1:=hdo hm ho hx (by omega)
   unfold doP;rw[if_neg (by simp[hc,hm]),if_neg (by simpa using ho),if_neg (by omega),if_neg h1,if_neg (by omega),if_neg (by omega),if_pos h]
 ·refine go 97 (if dR (parR (one u d.it.at_).1 u).1 (parR (one u d.it.at_).1 u).1.kids {fnd (one u d.it.at_).1 u with label:=d.it.label}=10 then (u,10)else (U.wth (one u d.it.at_).1 (λy=>{y with label:=d.it.label}) u,0)) (by rw[h];rfl) (λhm ho hx=>?_) (λhm ho hx=>?_)
  rotate_left
  ·have h1:=hdo hm ho hx (by omega)
   have:=f97 G hG u hu (fnd (one u d.it.at_).1 u) (by rw[hf1 ho]) (by rw[hf1 ho];exact hid ho) (by rw[hf1 ho];exact λe=>h1 e.symm) d
   rw[hf1 ho]at this
   exact this
  ·have h1:=hdo hm ho hx (by omega)
   unfold doP;rw[if_neg (by simp[hc,hm]),if_neg (by simpa using ho),if_neg (by omega),if_neg h1,if_neg (by omega),if_neg (by omega),if_neg (by omega),if_pos h]
 ·refine go 98 (if (one u d.it.to_).2≠0 then (u,(one u d.it.to_).2)else movP u (one u d.it.at_).1 (one u d.it.to_).1 d) (by rw[h];rfl) (λhm ho hx=>?_) (λhm ho hx=>?_)
  rotate_left
  ·have h1:=hdo hm ho hx (by omega)
   obtain⟨w0,w3⟩:=fd hm (.inr h)
   exact f98 G hG u hu d _ (Prod.ext rfl ho) (λe=>h1 e.symm) h w0 w3 q1.at_ q1.to_
  ·have h1:=hdo hm ho hx (by omega)
   unfold doP;rw[if_neg (by simp[hc,hm]),if_neg (by simpa using ho),if_neg (by omega),if_neg h1,if_neg (by omega),if_neg (by omega),if_neg (by omega),if_neg (by omega)]
end
section
variable (G:Glob)
theorem iZ (u:U) (p:Pt) (fn:Nat) (hm:aS p.kind g9=some (fnv fn)) (q:U×Int) (hq:Pure G Tryz.prog fn [.agg u.cs,.agg p.cs] (aO q)):Pure G Tryz.prog 14 [.agg u.cs,.agg p.cs] (aO q):=by
 have hD:=f36 G
 obtain⟨f,hf⟩:∃f,fnv fn= .sc f:=⟨_,rfl⟩
 have hfv:f= .func (.func fn) #[] #[]:=by unfold fnv at hf;injection hf with hf;exact hf.symm
 rw[hf]at hm
 have hC:=hq.v
 subst hfv
 unfold aO at hC ⊢
 have h1:=U.cs_len q.1
 generalize q.1.cs=xs at*
 generalize q.2=e at*
 have h3:xs.take 8=xs:=take_of_length_le (by omega)
 unfold Pt.cs at hC ⊢
 rw[U.cs_eq u]at hC ⊢
 refine Pure.w c14 λR hR=>?_
 unfold s14 r14
 (repeat' (first|simp only[EVz,seval,↓reduceIte,EV6,EV7,hm,Option.getD_some,Option.isSome_some,h1,h3,hne]|simp only[EVz,seval,↓reduceIte,EV6,EV7,hm,Option.getD_some,Option.isSome_some,h1,h3]|(with_reducible intro blk hblk;(try(have hnx:=hblk;simp only[EVK]at hnx;(have hne:=hnx))))|(refine av [] _ hD.v (ax.rfl' _) (SubN.refl _) (λr σ' hh hnd=>?_);obtain⟨bm,rfl,rfl⟩:=hh;(have hne:=hnd);(try simp[Store.keys]at hne))|(refine aG bg (l:=g9) (k:=p.kind) (z:=.nilFunc) (zv:=.sc .nilFunc) (eT:=41) rfl (bK _) (by kernel_rfl) (by exact aQ) (by kernel_rfl) cE ?_)|(refine aI hC ?_)|fail))
 all_goals exact hR _ _ (.inl (.inl (by rfl)))
theorem rev_none (u:U) (p:Pt) (hm:aS p.kind g9=none):Pure G Tryz.prog 14 [.agg u.cs,.agg p.cs] (aO (noU,1)):=by
 have hD:=f36 G
 unfold Pt.cs
 rw[U.cs_eq u]
 refine Pure.wL c14 λR hR=>?_
 unfold s14 r14
 (repeat' (first|simp only[EVz,seval,↓reduceIte,EV6,EV7,hm,Option.getD_none,Option.isSome_none,hne]|simp only[EVz,seval,↓reduceIte,EV6,EV7,hm,Option.getD_none,Option.isSome_none]|(with_reducible intro blk hblk;(try(have hnx:=hblk;simp only[EVK]at hnx;(have hne:=hnx))))|(refine av [] _ hD.v (ax.rfl' _) (SubN.refl _) (λr σ' hh hnd=>?_);obtain⟨bm,rfl,rfl⟩:=hh;(have hne:=hnd);(try simp[Store.keys]at hne))|(refine aG bg (l:=g9) (k:=p.kind) (z:=.nilFunc) (zv:=.sc .nilFunc) (eT:=41) rfl (bK _) (by kernel_rfl) (by exact aQ) (by kernel_rfl) cE ?_)|fail))
 all_goals exact hR _ _ (dG 1)
variable (hG:GOk G)
include hG
theorem f14 (u:U) (hg:Good u) (h0:u.kind=0) (p:Pt) (hx:p.unit.Short) (hcx:p.unit.flat.length<=1000000) (hl:p.words.length<1000000):Pure G Tryz.prog 14 [.agg u.cs,.agg p.cs] (aO (revP u p)):=by
 unfold revP
 by_cases k0:p.kind=0
 ·rw[if_pos k0]
  exact iZ G u p 57 (by rw[k0];rfl) _ (f57 G hG u hg p)
 rw[if_neg k0]
 by_cases k1:p.kind=1
 ·rw[if_pos k1]
  exact iZ G u p 59 (by rw[k1];rfl) _ (f59 G hG u hg h0 p hx hcx)
 rw[if_neg k1]
 by_cases k2:p.kind=2
 ·rw[if_pos k2]
  exact iZ G u p 61 (by rw[k2];rfl) _ (f61 G hG u hg h0 p)
 rw[if_neg k2]
 by_cases k3:p.kind=3
 ·rw[if_pos k3]
  exact iZ G u p 63 (by rw[k3];rfl) _ (f63 G hG u hg h0 p)
 rw[if_neg k3]
 by_cases k4:p.kind=4
 ·rw[if_pos k4]
  exact iZ G u p 65 (by rw[k4];rfl) _ (f65 G hG u hg p hl)
 rw[if_neg k4]
 by_cases k5:p.kind=5
 ·rw[if_pos k5]
  exact iZ G u p 67 (by rw[k5];rfl) _ (f67 G hG u hg p hl)
 rw[if_neg k5]
 exact rev_none G u p (tak_none (by omega))
end
/-! ### the patch of an item -/
def makTab:List (Int×AV):=[(1,fnv 87),(6,fnv 89),(2,fnv 85),(3,fnv 85),(4,fnv 90),(5,fnv 91)]
section
variable (G:Glob)
theorem f88 (u:U) (hg:Good u) (i:Idd) (hi:i∈u.ids) (hne0:u.id≠i):Pure G Tryz.prog 88 [.agg u.cs,.agg i.cs] (.agg (Pt.cs ⟨0,(parR i u).2.2,i,(parR i u).1.id,noU,[],[]⟩)):=by
 obtain⟨own,d,j,e1,e2,e3⟩:=bt hg.nd hi hne0
 have hP:=f131 G i u hg.short hg.nd
 unfold gW at hP
 rw[e1]at hP
 rw[e2]
 simp only[Idd.cs]at hP
 rw[U.cs_eq u]at hP ⊢
 refine Pure.w c88 λR hR=>?_
 unfold s88 r88
 (repeat' (first|(with_reducible refine aa hP ?_)|simp only[EVz,seval,↓reduceIte,EV6,EV7,hne]|simp only[EVz,seval,↓reduceIte,EV6,EV7]|(with_reducible intro blk hblk;(try(have hnx:=hblk;simp only[EVK]at hnx;first|(have hne:=AI hnx hne)|(have hne:=hnx))))|fail))
 all_goals exact hR _ _ (.inr (by simp[Pt.cs,noU,zId,bc,aR]))
theorem f85 (u x:U) (hl:x.words.length<1000000):Pure G Tryz.prog 85 [.agg u.cs,.agg x.cs] (.agg (Pt.cs ⟨4,0,x.id,zId,noU,[],x.words⟩)):=by
 have hC:=f86p G x.words hl
 rw[U.cs_eq u,U.cs_eq x]
 refine Pure.w c85 λR hR=>?_
 unfold s85 r85
 (repeat' (first|(with_reducible refine aa hC ?_)|simp only[EVz,seval,↓reduceIte,EV6,EV7,hne]|simp only[EVz,seval,↓reduceIte,EV6,EV7]|(with_reducible intro blk hblk;(try(have hnx:=hblk;simp only[EVK]at hnx;(have hne:=hnx))))|fail))
 all_goals exact hR _ _ (.inr (by simp[Pt.cs,noU,zId,bc,aR]))
theorem f87 (u x:U) (hg:Good u) (hi:x.id∈u.ids) (hne0:u.id≠x.id):Pure G Tryz.prog 87 [.agg u.cs,.agg x.cs] (.agg (Pt.cs ⟨1,(parR x.id u).2.2,x.id,(parR x.id u).1.id,x,[],[]⟩)):=by
 have hW:=f88 G u hg x.id hi hne0
 simp only[Idd.cs]at hW
 unfold Pt.cs noU at hW
 rw[U.cs_eq u]at hW ⊢
 rw[U.cs_eq x]
 refine Pure.w c87 λR hR=>?_
 unfold s87 r87
 (repeat' (first|(with_reducible refine aa hW ?_)|simp only[EVz,seval,↓reduceIte,EV6,EV7,hne]|simp only[EVz,seval,↓reduceIte,EV6,EV7]|(with_reducible intro blk hblk;(try(have hnx:=hblk;simp only[EVK]at hnx;first|(have hne:=AI hnx hne)|(have hne:=hnx))))|fail))
 all_goals exact hR _ _ (.inr (by simp[Pt.cs,noU,zId,bc,aR]))
theorem f89 (u x:U) (hg:Good u) (hi:x.id∈u.ids) (hne0:u.id≠x.id):Pure G Tryz.prog 89 [.agg u.cs,.agg x.cs] (.agg (Pt.cs ⟨2,(parR x.id u).2.2,x.id,(parR x.id u).1.id,noU,[],[]⟩)):=by
 have hW:=f88 G u hg x.id hi hne0
 simp only[Idd.cs]at hW
 unfold Pt.cs noU at hW
 rw[U.cs_eq u]at hW ⊢
 rw[U.cs_eq x]
 refine Pure.w c89 λR hR=>?_
 unfold s89 r89
 (repeat' (first|(with_reducible refine aa hW ?_)|simp only[EVz,seval,↓reduceIte,EV6,EV7,hne]|simp only[EVz,seval,↓reduceIte,EV6,EV7]|(with_reducible intro blk hblk;(try(have hnx:=hblk;simp only[EVK]at hnx;first|(have hne:=AI hnx hne)|(have hne:=hnx))))|fail))
 all_goals exact hR _ _ (.inr (by simp[Pt.cs,noU,zId,bc,aR]))
theorem f90 (u x:U) (hl:x.head.length<1000000):Pure G Tryz.prog 90 [.agg u.cs,.agg x.cs] (.agg (Pt.cs ⟨5,0,x.id,zId,noU,[],x.head⟩)):=by
 have hC:=f86p G x.head hl
 rw[U.cs_eq u,U.cs_eq x]
 refine Pure.w c90 λR hR=>?_
 unfold s90 r90
 (repeat' (first|(with_reducible refine aa hC ?_)|simp only[EVz,seval,↓reduceIte,EV6,EV7,hne]|simp only[EVz,seval,↓reduceIte,EV6,EV7]|(with_reducible intro blk hblk;(try(have hnx:=hblk;simp only[EVK]at hnx;(have hne:=hnx))))|fail))
 all_goals exact hR _ _ (.inr (by simp[Pt.cs,noU,zId,bc,aR]))
theorem f91 (u x:U):Pure G Tryz.prog 91 [.agg u.cs,.agg x.cs] (.agg (Pt.cs ⟨3,0,x.id,zId,noU,x.label,[]⟩)):=by
 rw[U.cs_eq u,U.cs_eq x]
 refine Pure.w c91 λR hR=>?_
 unfold s91 r91
 (repeat' (first|simp only[EVz,seval,↓reduceIte,EV6,EV7]|(with_reducible intro blk hblk;(try(have hnx:=hblk;simp only[EVK]at hnx;(have hne:=hnx))))|fail))
 all_goals exact hR _ _ (.inr (by simp[Pt.cs,noU,zId,bc,aR]))
theorem f45:ag G Tryz.prog 45 [] [] (λr σ=>∃b,r= .sc (.map (some b))/\σ=[(b,.map (cl intK makTab))]):=by
 refine ag.w c45 ?_
 unfold s45 r45
 (try simp only[EVz,seval,↓reduceIte,EV6,EV7])
 refine cV ?_
 intro b hb
 (try simp only[EVz,seval,↓reduceIte,EV6,EV7])
 refine cA bg (l:=[]) (k:=1) (eT:=91) rfl (fT 1) rfl (by kernel_rfl) aQ ?_
 (repeat' (first|simp only[EVz,seval,↓reduceIte,EV6,EV7]|(refine cA bg (eT:=91) rfl (fT _) rfl (by kernel_rfl) aQ ?_)|fail))
 all_goals exact RET.mk (SubN.refl _) ⟨b,rfl,rfl⟩
end
def invAV (q:Pt×Int):AV:=.tup [.agg q.1.cs,.int .i64 q.2]
theorem le_zPt:LeRep (.agg [.int .i64 0,.int .i64 0,.int .i64 0,.int .i64 0,.int .i64 0,.int .i64 0,.int .i64 0,.int .i64 0,.int .i64 0,.int .i64 0,.int .i64 0,.int .i64 0,.str [],.nil,.nil,.nil,.str [],.nil]) (.agg zPt.cs):=by
 refine LeRep.agg ?_
 unfold Pt.cs zPt zId noU
 repeat' first
  |exact LeReps.nil
  |refine LeReps.cons ?_ ?_
 all_goals first|exact LeRep.refl _|exact LeRep.nil
theorem le_iPt (a b c:Int):LeRep (.agg [.int .i64 0,.int .i64 0,.int .i64 a,.int .i64 b,.int .i64 c,.int .i64 0,.int .i64 0,.int .i64 0,.int .i64 0,.int .i64 0,.int .i64 0,.int .i64 0,.str [],.nil,.nil,.nil,.str [],.nil]) (.agg (Pt.cs ⟨0,0,⟨a,b,c⟩,zId,noU,[],[]⟩)):=by
 refine LeRep.agg ?_
 unfold Pt.cs zId noU
 repeat' first
  |exact LeReps.nil
  |refine LeReps.cons ?_ ?_
 all_goals first|exact LeRep.refl _|exact LeRep.nil
theorem do_ok {u:U} {d:Dd} (h:(doP u d).2=0):chg d.it.kind=true/\d.it.may=true/\(one u d.it.at_).2=0/\(d.it.kind=0\/(one u d.it.at_).1≠u.id):=by
 unfold doP at h
 split at h
 ·cases h
 rename_i c1
 rw[not_or]at c1
 split at h
 ·rename_i c2;exact absurd h c2
 rename_i c2
 refine⟨by simpa using c1.1,by simpa using c1.2,by simpa using c2,?_⟩
 by_cases k0:d.it.kind=0
 ·exact .inl k0
 rw[if_neg k0]at h
 right
 intro c3
 rw[if_pos c3]at h
 split at h
 ·rename_i c;exact absurd h c.2
 ·cases h
section
variable (G:Glob) (hG:GOk G)
include hG
set_option maxHeartbeats 4000000 in
theorem kH (u:U) (hg:Good u) (d:Dd) (hsh:d.it.Shorts) (he:(doP u d).2=0) (k0:d.it.kind≠0) (fn:Nat) (hm:aS d.it.kind makTab=some (fnv fn)) (p:Pt)
  (hq:Pure G Tryz.prog fn [.agg u.cs,.agg (fnd (one u d.it.at_).1 u).cs] (.agg p.cs)):Pure G Tryz.prog 17 [.agg u.cs,.agg d.cs] (invAV (p,0)):=by
 have hs:=hg.short
 obtain⟨q1,_⟩:=(Itm.Shorts_eq d.it).1 hsh
 have hA:=f18 G hG u hg d hsh
 have hO:=f43 G u d.it.at_ hs.1 hg.cnt q1.at_
 have hD:=f45 G
 have hok:=do_ok he
 have hi:=bZ (u:=u) (p:=d.it.at_) hok.2.2.1
 have hF:=cj G (one u d.it.at_).1 u hs
 unfold aO at hA
 unfold lH at hO
 rw[hok.2.2.1]at hO
 rw[he]at hA
 have h1:=U.cs_len (doP u d).1
 generalize (doP u d).1.cs=vs at*
 obtain⟨i,hie⟩:∃i,(one u d.it.at_).1=i:=⟨_,rfl⟩
 rw[hie]at hO hF hq hi
 rw[show hasP i u=true from decide_eq_true hi]at hF
 obtain⟨X,hX⟩:∃X,fnd i u=X:=⟨_,rfl⟩
 rw[hX]at hF hq
 obtain⟨f,hf⟩:∃f,fnv fn= .sc f:=⟨_,rfl⟩
 have hfv:f= .func (.func fn) #[] #[]:=by unfold fnv at hf;injection hf with hf;exact hf.symm
 rw[hf]at hm
 subst hfv
 have hC:=hq.v
 have h3:vs.take 8=vs:=take_of_length_le (by omega)
 have h4:=Pt.cs_len p
 unfold invAV
 simp only
 generalize p.cs=ps at*
 have h5:ps.take 18=ps:=take_of_length_le (by omega)
 have e0:decide (d.it.kind=0)=false:=decide_eq_false k0
 unfold Dd.cs at hA ⊢
 rw[Itm.cs_eq]at hA ⊢
 simp only[Idd.cs]at hF
 rw[U.cs_eq X]at hF hC
 rw[U.cs_eq u]at hA hO hF hC ⊢
 refine Pure.w c17 λR hR=>?_
 unfold s17 r17
 (repeat' (first|(with_reducible first|refine aa hA ?_|refine aa hO ?_|refine aa hF ?_)|simp only[EVz,seval,↓reduceIte,EV6,EV7,hm,Option.getD_some,Option.isSome_some,h1,h3,h4,h5,e0,hne]|simp only[EVz,seval,↓reduceIte,EV6,EV7,hm,Option.getD_some,Option.isSome_some,h1,h3,h4,h5,e0]|(with_reducible intro blk hblk;(try(have hnx:=hblk;simp only[EVK]at hnx;first|(have hne:=AI hnx hne)|(have hne:=hnx))))|(with_reducible refine ae ?_ ?_)|(with_reducible refine af ?_)|(refine av [] _ hD.v (ax.rfl' _) (SubN.refl _) (λr σ' hh hnd=>?_);obtain⟨bm,rfl,rfl⟩:=hh;(have hne:=hnd);(try simp[Store.keys]at hne))|(refine aG bg (l:=makTab) (k:=d.it.kind) (z:=.nilFunc) (zv:=.sc .nilFunc) (eT:=91) rfl (bK _) (by kernel_rfl) (by exact aQ) (by kernel_rfl) cE ?_)|(refine aI hC ?_)|fail))
 all_goals exact hR _ _ (.inl (.inl (by rfl)))
set_option maxHeartbeats 4000000 in
theorem f17 (u:U) (hg:Good u) (d:Dd) (hsh:d.it.Shorts):Pure G Tryz.prog 17 [.agg u.cs,.agg d.cs] (invAV (invP u d)):=by
 have hs:=hg.short
 by_cases he:(doP u d).2=0
 ·have hinv:invP u d=(mkPt u d (one u d.it.at_).1,0):=by unfold invP;rw[if_neg (by simp[he])]
  rw[hinv]
  obtain⟨o1,o2,o3,o4⟩:=do_ok he
  have hi:=bZ (u:=u) (p:=d.it.at_) o3
  by_cases k0:d.it.kind=0
  ·have hA:=f18 G hG u hg d hsh
   unfold aO at hA
   rw[he]at hA
   have h1:=U.cs_len (doP u d).1
   generalize (doP u d).1.cs=vs at*
   have h3:vs.take 8=vs:=take_of_length_le (by omega)
   have e0:decide (d.it.kind=0)=true:=decide_eq_true k0
   have hmk:mkPt u d (one u d.it.at_).1=⟨0,0,⟨d.act,d.item,1⟩,zId,noU,[],[]⟩:=by unfold mkPt;rw[if_pos k0]
   rw[hmk]
   unfold Dd.cs at hA ⊢
   rw[Itm.cs_eq]at hA ⊢
   rw[U.cs_eq u]at hA ⊢
   refine Pure.wL c17 λR hR=>?_
   unfold s17 r17
   (repeat' (first|(with_reducible refine aa hA ?_)|simp only[EVz,seval,↓reduceIte,EV6,EV7,h1,h3,e0,hne]|simp only[EVz,seval,↓reduceIte,EV6,EV7,h1,h3,e0]|(with_reducible intro blk hblk;(try(have hnx:=hblk;simp only[EVK]at hnx;first|(have hne:=AI hnx hne)|(have hne:=hnx))))|fail))
   all_goals exact hR _ _ (LeRep.tup (.cons (le_iPt _ _ _) (.cons (LeRep.refl _) .nil)))
  ·have hne:=o4.resolve_left k0
   have hne':u.id≠(one u d.it.at_).1:=λe=>hne e.symm
   have hid:=(cS u hg.nd hi).1
   have hkk:0<=d.it.kind/\d.it.kind<=6:=by simpa[chg]using o1
   have hnode:=(hs.node (aP u hg.nd hi)).2 _ (U.flat_self _)
   unfold mkPt
   rw[if_neg k0]
   by_cases k1:d.it.kind=1
   ·rw[if_pos k1]
    have:=f87 G u (fnd (one u d.it.at_).1 u) hg (by rw[hid];exact hi) (by rw[hid];exact hne')
    rw[hid]at this
    exact kH G hG u hg d hsh he k0 87 (by rw[k1];rfl) _ this
   rw[if_neg k1]
   by_cases k2:d.it.kind=2\/d.it.kind=3
   ·rw[if_pos k2]
    have:=f85 G u (fnd (one u d.it.at_).1 u) hnode.2.2.1
    rw[hid]at this
    exact kH G hG u hg d hsh he k0 85 (by rcases k2 with k|k<;>rw[k]<;>rfl) _ this
   rw[if_neg k2]
   by_cases k4:d.it.kind=4
   ·rw[if_pos k4]
    have:=f90 G u (fnd (one u d.it.at_).1 u) hnode.2.1
    rw[hid]at this
    exact kH G hG u hg d hsh he k0 90 (by rw[k4];rfl) _ this
   rw[if_neg k4]
   by_cases k5:d.it.kind=5
   ·rw[if_pos k5]
    have:=f91 G u (fnd (one u d.it.at_).1 u)
    rw[hid]at this
    exact kH G hG u hg d hsh he k0 91 (by rw[k5];rfl) _ this
   rw[if_neg k5]
   have k6:d.it.kind=6:=by omega
   have:=f89 G u (fnd (one u d.it.at_).1 u) hg (by rw[hid];exact hi) (by rw[hid];exact hne')
   rw[hid]at this
   exact kH G hG u hg d hsh he k0 89 (by rw[k6];rfl) _ this
 ·have hinv:invP u d=(zPt,(doP u d).2):=by unfold invP;rw[if_pos he]
  rw[hinv]
  have hA:=f18 G hG u hg d hsh
  unfold aO at hA
  have h1:=U.cs_len (doP u d).1
  generalize (doP u d).1.cs=vs at*
  generalize (doP u d).2=e at*
  have h3:vs.take 8=vs:=take_of_length_le (by omega)
  have e1:decide (e≠0)=true:=decide_eq_true he
  unfold Dd.cs at hA ⊢
  rw[Itm.cs_eq]at hA ⊢
  rw[U.cs_eq u]at hA ⊢
  refine Pure.wL c17 λR hR=>?_
  unfold s17 r17
  (repeat' (first|(with_reducible refine aa hA ?_)|simp only[EVz,seval,↓reduceIte,EV6,EV7,h1,h3,e1,hne]|simp only[EVz,seval,↓reduceIte,EV6,EV7,h1,h3,e1]|(with_reducible intro blk hblk;(try(have hnx:=hblk;simp only[EVK]at hnx;first|(have hne:=AI hnx hne)|(have hne:=hnx))))|fail))
  all_goals exact hR _ _ (LeRep.tup (.cons le_zPt (.cons (LeRep.refl _) .nil)))
end
theorem app_keptL {e:TypeId} {sz bytes m:Nat} {g:Option Nat} {rows ys:List (List AV)} {K:AV->Store->Prop} (pre κ:Store) (hp:∀p∈pre,p.1∉Store.keys (κ++tokS g e m)) (hg:∀b,g=some b->b∉κ.keys) (hm:m=rows.length*sz) (hnd:κ.keys.Nodup) (hb:(rows.length+ys.length)*bytes<=140737488355328)
  (hk:∀g',(∀b,g'=some b->b∉κ.keys)->K (.own g' e sz (rows++ys)) (κ++tokS g' e ((rows++ys).length*sz))):appX e sz bytes (pre++(κ++tokS g e m)) g rows ys K:=by
 subst hm
 refine fM κ (λb h=>?_) hb ⟨λq hq=>?_,λ_=>hnd⟩ hk
 ·have h1:=tokF (e:=e) (m:=rows.length*sz) hg b h
  have hkey:b∈Store.keys (κ++tokS g e (rows.length*sz)):=mem_map.2 ⟨_,Store.get_mem h1,rfl⟩
  rw[ak]
  ·exact h1
  ·intro hm
   obtain⟨p,hp1,rfl⟩:=mem_map.1 hm
   exact hp p hp1 hkey
 ·cases g with
  |none=>exact mem_append.2 (.inr (mem_append.2 (.inl hq)))
  |some b=>
   refine mem_filter.2 ⟨mem_append.2 (.inr (mem_append.2 (.inl hq))),?_⟩
   have:q.1≠b:=λh=>hg b rfl (by rw[←h];exact mem_map.2 ⟨q,hq,rfl⟩)
   simpa using this
theorem chg_inR (k:Int):inR k 0 6=chg k:=rfl
section
variable (G:Glob) (hG:GOk G)
include hG
end
def mb (q:U×List Pt):AV:=.tup [.agg q.1.cs,.lst 18 (q.2.map Pt.cs)]
section
variable (G:Glob) (hG:GOk G)
include hG
set_option maxHeartbeats 8000000 in
theorem f19 (u:U) (hu:Good u) (l:List Dd) (hl:l.length<1000000) (hs:∀d∈l,d.it.Shorts):Pure G Tryz.prog 19 [.agg u.cs,.lst 28 (l.map Dd.cs)] (mb (allU u l)):=by
 refine Pure.w c19 λR hR=>?_
 unfold s19 r19
 unfold mb at hR
 (repeat' (first|simp only[EVz,seval,↓reduceIte,EV6,EV7]|(with_reducible intro blk hblk;(try(have hnx:=hblk;simp only[EVK]at hnx;first|(have hne:=AI hnx hne)|(have hne:=hnx))))|fail))
 rename_i b2 _ _ _
 generalize hbe:blk=b4 at*
 have q1:¬b4=b2:=by simpa[Store.keys]using hblk
 have q1':¬b2=b4:=λe=>q1 e.symm
 refine ay (ι:=U×List Pt×Option Nat) l (λi r c=>Good c.1/\allU u l=((allU c.1 r).1,c.2.1++(allU c.1 r).2)/\c.2.1.length<=i/\(∀d,c.2.2=some d->d∉Store.keys [(b4,AObj.cells 27 zU),(b2,.cells 27 zU)])) (λi c=>[(2,.sc (.pointer (some ⟨b2,0,none⟩))),(4,.sc (.pointer (some ⟨b4,0,none⟩))),(6,.own c.2.2 29 18 (c.2.1.map Pt.cs)),(11,.lst 28 (l.map Dd.cs)),(12,.int .i64 l.length),(13,.int .i64 i)]) (λi c=>[(b4,.cells 27 zU),(b2,.cells 27 c.1.cs)]++tokS c.2.2 29 (c.2.1.length*18)) (u,[],none) ⟨hu,by simp,by simp,by simp⟩ (Weak.of (by simp[eJ,Env.get,AVle,aR]) (SubN.refl _)) (by omega) (λi x r c hok hx hw=>?_) (λc hok hn=>?_)
 ·obtain⟨o1,o2,o3,o4⟩:=hok
  have hI:=f48 G x.it.kind
  rw[chg_inR]at hI
  have hV:=f17 G hG c.1 o1 x (hs x hx.mem)
  have hA:=f18 G hG c.1 o1 x (hs x hx.mem)
  have hgd:=(fz o1 x).1
  have hil:=hx.lt
  rw[ln]at o2
  unfold aO at hA
  unfold invAV at hV
  have hU:=U.cs_len c.1
  have hUt:c.1.cs.take 8=c.1.cs:=take_of_length_le (by omega)
  cases hc:chg x.it.kind with
  |false=>
   rw[hc]at hI
   rw[hc,if_pos (.inl rfl)]at o2
   (repeat' (first|(with_reducible refine aa hI ?_)|simp only[EVz,seval,↓reduceIte,EV6,EV7,hx.yes,hx.le0,hx.lt',hx.get,hx.row,hw,Dd.cs,Itm.cs_eq,hne]|(with_reducible intro blk hblk;(try(have hnx:=hblk;simp only[EVK]at hnx;(have hne:=AI hnx hne))))|fail))
   exact ap hx c ⟨o1,o2,by omega,o4⟩ (Weak.sub (SubN.tail (SubN.refl _) _))
  |true=>
   rw[hc]at hI
   rw[hc]at o2
   obtain⟨⟨p,e⟩,hpe⟩:∃z,invP c.1 x=z:=⟨_,rfl⟩
   rw[hpe]at hV o2
   simp only[Dd.cs,Itm.cs_eq]at hA hV
   simp only at o2
   have hPl:=Pt.cs_len p
   have hPt:p.cs.take 18=p.cs:=take_of_length_le (by omega)
   rcases Classical.em (e=0)with he|he
   ·subst he
    rw[if_neg (by simp)]at o2
    have hd0:(doP c.1 x).2=0:=by rw[←inv_err,hpe]
    rw[hd0]at hA
    have hVl:=U.cs_len (doP c.1 x).1
    have hVt:(doP c.1 x).1.cs.take 8=(doP c.1 x).1.cs:=take_of_length_le (by omega)
    (repeat' (first|(with_reducible first|refine aa hI ?_|refine aa hV ?_|refine aa hA ?_)|simp only[EVz,seval,↓reduceIte,EV6,EV7,hx.yes,hx.le0,hx.lt',hx.get,hx.row,hw,Dd.cs,Itm.cs_eq,hPl,hPt,hVl,hVt,hU,hUt,hne]|(with_reducible intro blk hblk;(try(have hnx:=hblk;simp only[EVK]at hnx;(have hne:=AI hnx hne))))|fail))
    clear hA hI hV
    rename_i b8 _ _ _ b9 _ _ _
    obtain⟨n1,n2,n3,n4⟩:=hne
    have hm3:∀d,c.2.2=some d->d∈(tokS c.2.2 29 (c.2.1.length*18)).keys:=by
     intro d hd
     rw[hd]
     simp[tokS,Store.keys]
    refine⟨[p.cs],rfl,by simp[hPl],by simp,?_⟩
    refine app_keptL (sz:=18) (bytes:=224) (rows:=c.2.1.map Pt.cs) (ys:=[p.cs]) (m:=c.2.1.length*18) [(blk,_)] [(b9,_),(b8,_),(b4,_),(b2,_)] ?_ ?_ (by rw[length_map]) ?_ (by rw[length_map];simp;omega) (λgn hgn=>?_)
    ·intro q hq
     simp only[mem_singleton]at hq
     subst hq
     simp[Store.keys,n1]
     simpa[Store.keys]using n1.2.2.2.2
    ·intro d hd
     have h1:=hm3 d hd
     have h2:=o4 d hd
     simp[Store.keys]at h2 ⊢
     refine⟨λq=>n2.2.2.2 (q ▸ h1),λq=>n3.2.2 (q ▸ h1),h2.1,h2.2⟩
    ·simp[Store.keys,n2,n3,q1]
    (repeat' (simp only[EVz,seval,↓reduceIte,EV6,EV7,n1,n2,n3,q1,q1',hw,hne]))
    refine ap hx ((doP c.1 x).1,c.2.1++[p],gn) ⟨hgd,by rw[o2];simp,?_,?_⟩ ?_
    ·rw[length_append];exact Nat.succ_le_succ o3
    ·intro d hd
     have:=hgn d hd
     simp[Store.keys]at this ⊢
     exact⟨this.2.2.1,this.2.2.2⟩
    ·simp only[map_append,map_cons,map_nil,length_append,length_map,length_cons,length_nil]
     exact Weak.sub (SubN.tail (SubN.tail (SubN.refl _) _) _)
   ·rw[if_pos (.inr he)]at o2
    (repeat' (first|(with_reducible (refine ab (λh=>?_) (λh=>?_))<;>(try simp only[Da,Db,Dc,Dw,De,Df,Dg,Dh]at h))|(with_reducible first|refine aa hI ?_|refine aa hV ?_)|simp only[EVz,seval,↓reduceIte,EV6,EV7,hx.yes,hx.le0,hx.lt',hx.get,hx.row,hw,Dd.cs,Itm.cs_eq,he,hPl,hPt,hU,hUt,hne]|(with_reducible intro blk hblk;(try(have hnx:=hblk;simp only[EVK]at hnx;(have hne:=AI hnx hne))))|(exfalso;omega)|fail))
    all_goals exact ap hx c ⟨o1,o2,by omega,o4⟩ (Weak.sub (SubN.tail (SubN.tail (SubN.refl _) _) _))
 ·(repeat' (simp only[EVz,seval,↓reduceIte,EV6,EV7,hn,hne]))
  obtain⟨o1,o2,o3,o4⟩:=hok
  rw[allU_nil]at o2
  simp only[append_nil]at o2
  rw[o2]at hR
  exact hR _ _ (.inr ⟨aR.rfl' _,.inr ⟨rfl,rfl⟩,trivial⟩)
end
def inI (n:Int):Prop:=-9223372036854775808<=n/\n<=9223372036854775807
theorem gD {n:Int} (h:inI n):(Lib.itoa n).length<=21:=Lib.itoa_length_le _ h.1 h.2
theorem idTx_len {i:Idd} (h:inI i.act/\inI i.item/\inI i.n):(idTx i).length<=100:=by
 have h1:=gD h.1
 have h2:=gD h.2.1
 have h3:=gD h.2.2
 unfold idTx
 simp
 omega
section
variable (G:Glob)
theorem f27 (hG:GOk2 G) (i:Idd) (h:inI i.act/\inI i.item/\inI i.n):Pure G Tryz.prog 27 [.agg i.cs] (.str (idTx i)):=by
 have l1:=gD h.1
 have l2:=gD h.2.1
 have l3:=gD h.2.2
 have d1:=f51 G hG i.act h.1.1 h.1.2
 have d2:=f51 G hG i.item h.2.1.1 h.2.1.2
 have d3:=f51 G hG i.n h.2.2.1 h.2.2.2
 refine Pure.w c27 λR hR=>?_
 unfold s27 r27
 unfold Idd.cs
 (repeat' (first|(with_reducible refine AI (by omega) ?_)|(with_reducible first|refine aa d1 ?_|refine aa d2 ?_|refine aa d3 ?_)|simp only[EVz,seval,↓reduceIte,EV6,EV7,length_append,length_cons,length_nil]|fail))
 all_goals exact RET.eq hR (congrArg AV.str (by simp[idTx]))
end
theorem lq {l:List Wd} (h:eR l=true):l.length<1000000/\∀w∈l,w.text.length<1000000:=by
 unfold eR at h
 simp only[Bool.and_eq_true,all_eq_true,decide_eq_true_eq]at h
 exact⟨by omega,λw hw=>by have:=h.1 w hw;omega⟩
theorem jv:∀{us:List U},U.shortss us=true->∀k∈us,k.shorts=true
 |[],_,k,hk=>by cases hk
 |u::us,h,k,hk=>by
  rw[U.shortss,Bool.and_eq_true]at h
  rcases mem_cons.1 hk with rfl|hk
  ·exact h.1
  ·exact jv h.2 k hk
theorem np:∀u:U,u.shorts=true->∀x∈u.flat,x.label.length<1000000/\x.head.length<1000000/\x.words.length<1000000/\(∀w∈x.head,w.text.length<1000000)/\(∀w∈x.words,w.text.length<1000000):=by
 refine U.ind λu ih h x hx=>?_
 rw[U.shorts_eq]at h
 simp only[Bool.and_eq_true,decide_eq_true_eq]at h
 obtain⟨h1,h2,h3,h4⟩:=h
 rw[U.flat_eq]at hx
 rcases mem_cons.1 hx with rfl|hx
 ·have a:=lq h2
  have b:=lq h3
  exact⟨by omega,a.1,b.1,a.2,b.2⟩
 ·obtain⟨k,hk,hx⟩:=flats_in hx
  exact ih k hk (jv h4 k hk) x hx
theorem kY {u:U} (hf:u.fit) {m:Int} (hm:0<=m) (hm2:m<=100000) (h:u.few m=true):u.Short:=by
 unfold U.few at h
 simp only[Bool.and_eq_true,decide_eq_true_eq]at h
 obtain⟨h1,h2⟩:=h
 have h3:=(U.size_ok u 0 m hm).2.2 h1
 exact⟨⟨hf,by omega⟩,λx hx=>by
  obtain⟨a1,a2,a3,a4,a5⟩:=np u h2 x hx
  exact⟨by omega,a2,a3,λw hw=>by have:=a4 w hw;omega,λw hw=>by have:=a5 w hw;omega⟩⟩
theorem nD {l:List Stp} (h:bX l=true):∀s∈l,s.label.length<=100:=by
 unfold bX at h
 simp only[all_eq_true,decide_eq_true_eq]at h
 intro s hs
 have:=h s hs
 omega
theorem nC:∀{l:List Itm},Itm.fews l=true->∀y∈l,y.few=true
 |[],_,y,hy=>by cases hy
 |x::l,h,y,hy=>by
  rw[Itm.fews_cons,Bool.and_eq_true,Bool.and_eq_true]at h
  rcases mem_cons.1 hy with rfl|hy
  ·exact h.1.2
  ·exact nC h.2 y hy
theorem ov:∀x:Itm,x.fit->x.few=true->x.Shorts:=by
 refine Itm.ind λx ih hf h=>?_
 rw[Itm.few_eq]at h
 unfold Itm.few0 at h
 simp only[Bool.and_eq_true,decide_eq_true_eq]at h
 obtain⟨⟨a1,a2,a3,a4,a5,a6,a7,a8,a9,a10⟩,b1,b2,b3,b4,b5⟩:=h
 obtain⟨h1,h2,h3,h4,h5,h6,h7⟩:=(Itm.fit_eq x).1 hf
 refine(Itm.Shorts_eq x).2 ⟨⟨hf,kY h3 (by omega) (by omega) a10,by omega,by omega,λs hs=>by have:=nD b3 s hs;omega,λs hs=>by have:=nD b4 s hs;omega,by omega,by omega,by omega,by omega,by omega,by omega⟩,λy hy=>ih y hy (h7 y hy) (nC b5 y hy)⟩
section
variable (G:Glob) (hG:GOk G)
include hG
end
end Go.Av
