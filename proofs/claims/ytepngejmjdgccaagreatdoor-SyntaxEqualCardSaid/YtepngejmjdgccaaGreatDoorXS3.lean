/-
  SYNTAX, plain law 3: no two valid items have one text.
-/
import Derived.Test.YtepngejmjdgccaaGreatDoorXS2
namespace Go.Av
open Go Go.RowKit Go.Proofs
set_option linter.unusedSimpArgs false
set_option linter.unusedVariables false
section
variable {x:Itm} {b:List UInt8}
theorem bod_0 (h:x.kind=0):x.bod b=ofT x.wh++(atT x.at_++(edgeT x.wh++([32,105,110,115,101,114,116,32]++(quoT (textT x.unit)++x.sfx)))):=by unfold Itm.bod;rw[h,if_pos rfl]
theorem bod_1 (h:x.kind=1):x.bod b=atT x.at_++x.sfx:=by unfold Itm.bod;rw[h,if_neg (by decide),if_pos rfl]
theorem bod_2 (h:x.kind=2):x.bod b=atT x.at_++([32,102,111,114,32]++(quoW x.old++([32,112,117,116,32]++(quoW x.new++(nthT x.nth++x.sfx))))):=by unfold Itm.bod;rw[h,if_neg (by decide),if_neg (by decide),if_pos rfl]
theorem bod_3 (h:x.kind=3):x.bod b=if x.old=[]then atT x.at_++([32,97,104,101,97,100,32,111,102,32,97,108,108,32,112,117,116,32]++(quoW x.new++x.sfx))else atT x.at_++([32,98,101,104,105,110,100,32]++(quoW x.old++([32,112,117,116,32]++(quoW x.new++(nthT x.nth++x.sfx))))):=by
 unfold Itm.bod;rw[h,if_neg (by decide),if_neg (by decide),if_neg (by decide),if_pos rfl]
theorem bod_4 (h:x.kind=4):x.bod b=atT x.at_++([32,97,115,32]++(quoW x.new++x.sfx)):=by unfold Itm.bod;rw[h,if_neg (by decide),if_neg (by decide),if_neg (by decide),if_neg (by decide),if_pos rfl]
theorem bod_5 (h:x.kind=5):x.bod b=atT x.at_++([32,97,115,32]++(x.label++x.sfx)):=by unfold Itm.bod;rw[h,if_neg (by decide),if_neg (by decide),if_neg (by decide),if_neg (by decide),if_neg (by decide),if_pos rfl]
theorem bod_6 (h:x.kind=6):x.bod b=atT x.at_++(32::(kwT 0 x.wh++(ofT x.wh++(atT x.to_++(edgeT x.wh++x.sfx))))):=by
 unfold Itm.bod;rw[h,if_neg (by decide),if_neg (by decide),if_neg (by decide),if_neg (by decide),if_neg (by decide),if_neg (by decide),if_pos rfl]
theorem bod_7 (h:x.kind=7\/x.kind=8\/x.kind=9):x.bod b=[32,97,99,116,32]++(Lib.itoa x.act++(numT x.item++([32,102,114,111,109,32,100,97,121,32]++Lib.itoa x.day))):=by
 unfold Itm.bod;rw[if_neg (by omega),if_neg (by omega),if_neg (by omega),if_neg (by omega),if_neg (by omega),if_neg (by omega),if_neg (by omega),if_pos h]
theorem bod_10 (h:x.kind=10):x.bod b=32::(x.event++([32,111,110,32,100,97,121,32]++Lib.itoa x.day)):=by
 unfold Itm.bod;rw[if_neg (by omega),if_neg (by omega),if_neg (by omega),if_neg (by omega),if_neg (by omega),if_neg (by omega),if_neg (by omega),if_neg (by omega),if_pos h]
theorem bod_11 (h:x.kind=11):x.bod b=[32,97,99,116,32]++(Lib.itoa x.act++([32,105,116,101,109,32]++(Lib.itoa x.item++([32,97,115,32]++b)))):=by
 unfold Itm.bod;rw[if_neg (by omega),if_neg (by omega),if_neg (by omega),if_neg (by omega),if_neg (by omega),if_neg (by omega),if_neg (by omega),if_neg (by omega),if_neg (by omega)]
end
theorem at_cutR {p q:List Stp} {s t:List UInt8} (hp:addrOk p=true) (hq:addrOk q=true) (h:atT p++s=atT q++t) (hs:Stop s) (ht:Stop t):p=q/\s=t:=at_cut hp hq hs ht h
theorem wh_cutR {a b:Int} (ha:0<=a/\a<=3) (hb:0<=b/\b<=3) (hk:kwT 0 a=kwT 0 b) {p q:List Stp} (hp:addrOk p=true) (hq:addrOk q=true) {s t:List UInt8}
  (h:ofT a++(atT p++(edgeT a++s))=ofT b++(atT q++(edgeT b++t))) (hs:Stop s) (ht:Stop t):a=b/\p=q/\s=t:=wh_cut ha hb hk hp hq hs ht h
theorem wcutR {x y s t:List UInt8} (hx:32∉x) (hy:32∉y) (h:x++s=y++t) (hs:Sp s) (ht:Sp t):x=y/\s=t:=wcut hx hy hs ht h
theorem ncutR {n m:Int} {s t:List UInt8} (hn:0<=n) (hm:0<=m) (h:Lib.itoa n++s=Lib.itoa m++t) (hs:Sp s) (ht:Sp t):n=m/\s=t:=ncut hn hm hs ht h
theorem nth_cutR {a b:Int} {s t:List UInt8} (ha:0<=a) (hb:0<=b) (h:nthT a++s=nthT b++t) (hs:Sp s) (ht:Sp t):a=b/\s=t:=nth_cut ha hb hs ht h
theorem inR_iff {n a b:Int}:inR n a b=true↔a<=n/\n<=b:=by unfold inR;simp
structure AmOk (x:Itm):Prop where
 at_:addrOk x.at_=true
 for_:x.for_=[]\/nameOk x.for_=true
 start:startOk x.start=true
theorem may_split {x:Itm} (h:x.may=true):(0<=x.kind/\x.kind<=11)/\x=x.told/\(x.kind<=6->AmOk x)/\x.own (Itm.mayOne x.by_)=true:=by
 rw[Itm.may_eq,Bool.and_eq_true]at h
 obtain⟨h1,h2⟩:=h
 unfold Itm.pre at h1
 simp only[Bool.and_eq_true,Bool.or_eq_true,decide_eq_true_eq,inR_iff]at h1
 exact⟨h1.1.1,h1.1.2,λhk=>by
  rcases h1.2 with h|h
  ·omega
  ·exact⟨h.1,h.2.1,h.2.2⟩,h2⟩
theorem numT_cut {a b:Int} {s t:List UInt8} (ha: -1<=a) (hb: -1<=b) (h:numT a++([32,102,114,111,109,32,100,97,121,32]++s)=numT b++([32,102,114,111,109,32,100,97,121,32]++t)):a=b/\s=t:=by
 unfold numT at h
 by_cases h1:0<=a<;>by_cases h2:0<=b
 ·rw[if_pos h1,if_pos h2,List.append_assoc,List.append_assoc,List.append_cancel_left_eq]at h
  obtain⟨e1,e2⟩:=ncutR h1 h2 h Sp.cons Sp.cons
  exact⟨e1,List.append_cancel_left e2⟩
 ·rw[if_pos h1,if_neg h2]at h;simp at h
 ·rw[if_neg h1,if_pos h2]at h;simp at h
 ·rw[if_neg h1,if_neg h2]at h
  exact⟨by omega,by simpa using h⟩
theorem stopL (w r:List UInt8) (h1:32∉w:=by decide) (h2:w∉kindNames:=by decide) (h3:Sp r:=by exact Sp.cons):Stop (32::(w++r)):=stopW w r h1 h2 h3
theorem itm_inj:∀x y:Itm,x.may=true->y.may=true->x.tx=y.tx->x=y:=by
 refine Itm.ind λx ih y hx hy h=>?_
 obtain⟨kx,tx,ax,ox⟩:=may_split hx
 obtain⟨ky,ty,ay,oy⟩:=may_split hy
 rw[Itm.tx_eq,Itm.tx_eq]at h
 obtain⟨e1,e2⟩:=wcutR (kw_nosp _ kx.1 kx.2) (kw_nosp _ ky.1 ky.2) h (bod_sp _ _) (bod_sp _ _)
 have hc:kcls x.kind x.wh=kcls y.kind y.wh:=by rw[←kcode_kw _ kx.1 kx.2,←kcode_kw _ ky.1 ky.2,e1]
 have hkk:x.kind=y.kind\/(x.kind=2/\y.kind=3)\/(x.kind=3/\y.kind=2):=by
  unfold kcls at hc
  repeat' split at hc
  all_goals omega
 suffices ht:x.told=y.told by rw[tx,ty];exact ht
 have no:∀{x y:Itm},x.kind=2->y.kind=3->AmOk x->AmOk y->x.bod (Itm.tx1 x.by_)=y.bod (Itm.tx1 y.by_)->False:=by
  intro x y h2 h3 qx qy h
  rw[bod_2 h2,bod_3 h3]at h
  split at h
  ·have:=(at_cutR qx.at_ qy.at_ h (stopL [102,111,114] _) (stopL [97,104,101,97,100] _)).2
   simp at this
  ·have:=(at_cutR qx.at_ qy.at_ h (stopL [102,111,114] _) (stopL [98,101,104,105,110,100] _)).2
   simp at this
 rcases hkk with hk|⟨h2,h3⟩|⟨h3,h2⟩
 case inr.inl=>exact(no h2 h3 (ax (by omega)) (ay (by omega)) e2).elim
 case inr.inr=>exact(no h2 h3 (ay (by omega)) (ax (by omega)) e2.symm).elim
 have hall:y.kind=0\/y.kind=1\/y.kind=2\/y.kind=3\/y.kind=4\/y.kind=5\/y.kind=6\/(y.kind=7\/y.kind=8\/y.kind=9)\/y.kind=10\/y.kind=11:=by omega
 rcases hall with hy|hy|hy|hy|hy|hy|hy|hy|hy|hy
 ·have hx:=hk.trans hy
  have qx:=ax (by omega)
  have qy:=ay (by omega)
  unfold Itm.own at ox oy
  rw[if_pos hx]at ox
  rw[if_pos hy]at oy
  simp only[Bool.and_eq_true,decide_eq_true_eq,inR_iff]at ox oy
  rw[bod_0 hx,bod_0 hy]at e2
  rw[hx,hy]at e1
  obtain⟨f1,f2,f3⟩:=wh_cutR ox.1 oy.1 e1 qx.at_ qy.at_ e2 (stopL [105,110,115,101,114,116] _) (stopL [105,110,115,101,114,116] _)
  rw[List.append_cancel_left_eq]at f3
  obtain⟨f4,f5⟩:=quo_cut f3
  have f6:=textT_inj (unit_ok ox.2.1 ox.2.2.2) (unit_ok oy.2.1 oy.2.2.2) f4
  obtain⟨f7,f8⟩:=sfx_inj qx.for_ qy.for_ qx.start qy.start f5
  simp[Itm.told,Itm.just,hx,hy,f1,f2,f6,f7,f8]
 ·have hx:=hk.trans hy
  have qx:=ax (by omega)
  have qy:=ay (by omega)
  rw[bod_1 hx,bod_1 hy]at e2
  obtain⟨f2,f5⟩:=at_cutR qx.at_ qy.at_ e2 (sfx_stop x) (sfx_stop y)
  obtain⟨f7,f8⟩:=sfx_inj qx.for_ qy.for_ qx.start qy.start f5
  simp[Itm.told,Itm.just,hx,hy,f2,f7,f8]
 ·have hx:=hk.trans hy
  have qx:=ax (by omega)
  have qy:=ay (by omega)
  unfold Itm.own at ox oy
  rw[if_neg (by omega),if_pos hx]at ox
  rw[if_neg (by omega),if_pos hy]at oy
  simp only[Bool.and_eq_true,decide_eq_true_eq,inR_iff]at ox oy
  rw[bod_2 hx,bod_2 hy]at e2
  obtain⟨f2,f3⟩:=at_cutR qx.at_ qy.at_ e2 (stopL [102,111,114] _) (stopL [102,111,114] _)
  rw[List.append_cancel_left_eq]at f3
  obtain⟨f4,f5⟩:=quoW_cut ox.1 oy.1 f3
  rw[List.append_cancel_left_eq]at f5
  obtain⟨f6,f9⟩:=quoW_cut ox.2.1 oy.2.1 f5
  obtain⟨f10,f11⟩:=nth_cutR ox.2.2.1 oy.2.2.1 f9 (sfx_sp x) (sfx_sp y)
  obtain⟨f7,f8⟩:=sfx_inj qx.for_ qy.for_ qx.start qy.start f11
  simp[Itm.told,Itm.just,hx,hy,f2,f4,f6,f7,f8,f10]
 ·have hx:=hk.trans hy
  have qx:=ax (by omega)
  have qy:=ay (by omega)
  unfold Itm.own at ox oy
  rw[if_neg (by omega),if_neg (by omega),if_pos hx]at ox
  rw[if_neg (by omega),if_neg (by omega),if_pos hy]at oy
  simp only[Bool.and_eq_true,Bool.or_eq_true,decide_eq_true_eq,inR_iff]at ox oy
  rw[bod_3 hx,bod_3 hy]at e2
  by_cases o1:x.old=[]<;>by_cases o2:y.old=[]
  ·rw[if_pos o1,if_pos o2]at e2
   have n1:x.nth=0:=by
    rcases ox.2.2.2 with h|h
    ·rw[o1]at h;simp at h
    ·exact h
   have n2:y.nth=0:=by
    rcases oy.2.2.2 with h|h
    ·rw[o2]at h;simp at h
    ·exact h
   obtain⟨f2,f3⟩:=at_cutR qx.at_ qy.at_ e2 (stopL [97,104,101,97,100] _) (stopL [97,104,101,97,100] _)
   rw[List.append_cancel_left_eq]at f3
   obtain⟨f6,f9⟩:=quoW_cut ox.2.1 oy.2.1 f3
   obtain⟨f7,f8⟩:=sfx_inj qx.for_ qy.for_ qx.start qy.start f9
   simp[Itm.told,Itm.just,hx,hy,f2,o1,o2,f6,f7,f8,n1,n2]
  ·rw[if_pos o1,if_neg o2]at e2
   have:=(at_cutR qx.at_ qy.at_ e2 (stopL [97,104,101,97,100] _) (stopL [98,101,104,105,110,100] _)).2
   simp at this
  ·rw[if_neg o1,if_pos o2]at e2
   have:=(at_cutR qx.at_ qy.at_ e2 (stopL [98,101,104,105,110,100] _) (stopL [97,104,101,97,100] _)).2
   simp at this
  ·rw[if_neg o1,if_neg o2]at e2
   obtain⟨f2,f3⟩:=at_cutR qx.at_ qy.at_ e2 (stopL [98,101,104,105,110,100] _) (stopL [98,101,104,105,110,100] _)
   rw[List.append_cancel_left_eq]at f3
   obtain⟨f4,f5⟩:=quoW_cut ox.1 oy.1 f3
   rw[List.append_cancel_left_eq]at f5
   obtain⟨f6,f9⟩:=quoW_cut ox.2.1 oy.2.1 f5
   obtain⟨f10,f11⟩:=nth_cutR ox.2.2.1.1 oy.2.2.1.1 f9 (sfx_sp x) (sfx_sp y)
   obtain⟨f7,f8⟩:=sfx_inj qx.for_ qy.for_ qx.start qy.start f11
   simp[Itm.told,Itm.just,hx,hy,f2,f4,f6,f7,f8,f10]
 ·have hx:=hk.trans hy
  have qx:=ax (by omega)
  have qy:=ay (by omega)
  unfold Itm.own at ox oy
  rw[if_neg (by omega),if_neg (by omega),if_neg (by omega),if_pos hx]at ox
  rw[if_neg (by omega),if_neg (by omega),if_neg (by omega),if_pos hy]at oy
  rw[bod_4 hx,bod_4 hy]at e2
  obtain⟨f2,f3⟩:=at_cutR qx.at_ qy.at_ e2 (stopL [97,115] _) (stopL [97,115] _)
  rw[List.append_cancel_left_eq]at f3
  obtain⟨f4,f5⟩:=quoW_cut ox oy f3
  obtain⟨f7,f8⟩:=sfx_inj qx.for_ qy.for_ qx.start qy.start f5
  simp[Itm.told,Itm.just,hx,hy,f2,f4,f7,f8]
 ·have hx:=hk.trans hy
  have qx:=ax (by omega)
  have qy:=ay (by omega)
  unfold Itm.own at ox oy
  rw[if_neg (by omega),if_neg (by omega),if_neg (by omega),if_neg (by omega),if_pos hx]at ox
  rw[if_neg (by omega),if_neg (by omega),if_neg (by omega),if_neg (by omega),if_pos hy]at oy
  rw[bod_5 hx,bod_5 hy]at e2
  obtain⟨f2,f3⟩:=at_cutR qx.at_ qy.at_ e2 (stopL [97,115] _) (stopL [97,115] _)
  rw[List.append_cancel_left_eq]at f3
  obtain⟨f4,f5⟩:=wcutR (label_nosp ox) (label_nosp oy) f3 (sfx_sp x) (sfx_sp y)
  obtain⟨f7,f8⟩:=sfx_inj qx.for_ qy.for_ qx.start qy.start f5
  simp[Itm.told,Itm.just,hx,hy,f2,f4,f7,f8]
 ·have hx:=hk.trans hy
  have qx:=ax (by omega)
  have qy:=ay (by omega)
  unfold Itm.own at ox oy
  rw[if_neg (by omega),if_neg (by omega),if_neg (by omega),if_neg (by omega),if_neg (by omega),if_pos hx]at ox
  rw[if_neg (by omega),if_neg (by omega),if_neg (by omega),if_neg (by omega),if_neg (by omega),if_pos hy]at oy
  simp only[Bool.and_eq_true,inR_iff]at ox oy
  rw[bod_6 hx,bod_6 hy]at e2
  have nosp:=λw=>kw_nosp (k:=0) w (by decide) (by decide)
  have nok:∀w,kwT 0 w∉kindNames:=by
   intro w
   unfold kwT
   rw[if_pos rfl]
   split
   ·decide
   split<;>decide
  have sp:∀(z:Itm),Sp (ofT z.wh++(atT z.to_++(edgeT z.wh++z.sfx))):=λz=>ofT_sp _ (atT_sp _ (edgeT_sp _ (sfx_sp z)))
  obtain⟨f2,f3⟩:=at_cutR qx.at_ qy.at_ e2 (stopW _ _ (nosp _) (nok _) (sp x)) (stopW _ _ (nosp _) (nok _) (sp y))
  simp only[List.cons.injEq,true_and]at f3
  obtain⟨f4,f5⟩:=wcutR (nosp _) (nosp _) f3 (sp x) (sp y)
  obtain⟨f6,f9,f10⟩:=wh_cutR ox.1 oy.1 f4 ox.2 oy.2 f5 (sfx_stop x) (sfx_stop y)
  obtain⟨f7,f8⟩:=sfx_inj qx.for_ qy.for_ qx.start qy.start f10
  simp[Itm.told,Itm.just,hx,hy,f2,f6,f9,f7,f8]
 ·have hx:x.kind=7\/x.kind=8\/x.kind=9:=by omega
  unfold Itm.own at ox oy
  rw[if_neg (by omega),if_neg (by omega),if_neg (by omega),if_neg (by omega),if_neg (by omega),if_neg (by omega),if_pos hx]at ox
  rw[if_neg (by omega),if_neg (by omega),if_neg (by omega),if_neg (by omega),if_neg (by omega),if_neg (by omega),if_pos hy]at oy
  simp only[Bool.and_eq_true,inR_iff]at ox oy
  rw[bod_7 hx,bod_7 hy]at e2
  rw[List.append_cancel_left_eq]at e2
  obtain⟨f1,f2⟩:=ncutR (by omega) (by omega) e2 (numT_sp _ Sp.cons) (numT_sp _ Sp.cons)
  obtain⟨f3,f4⟩:=numT_cut ox.2.1.1 oy.2.1.1 f2
  have f5:=itoa_inj ox.2.2.1 oy.2.2.1 f4
  have hx6:¬x.kind<=6:=by omega
  have hy6:¬y.kind<=6:=by omega
  unfold Itm.told Itm.just
  rw[if_neg hx6,if_neg hy6,if_neg (by omega),if_neg (by omega),if_neg (by omega),if_neg (by omega),if_neg (by omega),if_pos hx,if_neg (by omega),if_neg (by omega),if_neg (by omega),if_neg (by omega),if_neg (by omega),if_pos hy,f1,f3,f5,hk]
 ·have hx:=hk.trans hy
  unfold Itm.own at ox oy
  rw[if_neg (by omega),if_neg (by omega),if_neg (by omega),if_neg (by omega),if_neg (by omega),if_neg (by omega),if_neg (by omega),if_pos hx]at ox
  rw[if_neg (by omega),if_neg (by omega),if_neg (by omega),if_neg (by omega),if_neg (by omega),if_neg (by omega),if_neg (by omega),if_pos hy]at oy
  simp only[Bool.and_eq_true,inR_iff]at ox oy
  rw[bod_10 hx,bod_10 hy]at e2
  simp only[List.cons.injEq,true_and]at e2
  obtain⟨f1,f2⟩:=wcutR (name_ch ox.1).2 (name_ch oy.1).2 e2 Sp.cons Sp.cons
  have f3:=itoa_inj ox.2.1 oy.2.1 (List.append_cancel_left f2)
  simp[Itm.told,Itm.just,hx,hy,f1,f3]
 ·have hx:=hk.trans hy
  unfold Itm.own at ox oy
  rw[if_neg (by omega),if_neg (by omega),if_neg (by omega),if_neg (by omega),if_neg (by omega),if_neg (by omega),if_neg (by omega),if_neg (by omega),if_pos hx]at ox
  rw[if_neg (by omega),if_neg (by omega),if_neg (by omega),if_neg (by omega),if_neg (by omega),if_neg (by omega),if_neg (by omega),if_neg (by omega),if_pos hy]at oy
  simp only[Bool.and_eq_true,inR_iff]at ox oy
  rw[bod_11 hx,bod_11 hy]at e2
  rw[List.append_cancel_left_eq]at e2
  obtain⟨f1,f2⟩:=ncutR (by omega) (by omega) e2 Sp.cons Sp.cons
  rw[List.append_cancel_left_eq]at f2
  obtain⟨f3,f4⟩:=ncutR ox.2.1.1 oy.2.1.1 f2 Sp.cons Sp.cons
  rw[List.append_cancel_left_eq]at f4
  have hb:x.by_=y.by_:=by
   rcases hbx:x.by_ with _|⟨u,l⟩
   ·rw[hbx,Itm.mayOne]at ox;simp at ox
   rcases hby:y.by_ with _|⟨v,m⟩
   ·rw[hby,Itm.mayOne]at oy;simp at oy
   rw[hbx,Itm.mayOne_cons]at ox
   rw[hby,Itm.mayOne_cons]at oy
   simp only[Bool.and_eq_true,List.isEmpty_iff]at ox oy
   rw[hbx,hby]at f4
   simp only[Itm.tx1]at f4
   have:=ih u (by rw[hbx];simp) v ox.2.2.2 oy.2.2.2 f4
   rw[this,ox.2.2.1.1,oy.2.2.1.1]
  simp[Itm.told,Itm.just,hx,hy,f1,f3,hb]
end Go.Av
