/-
  SYNTAX, plain law 2: the text of an item; no two valid items have one text.
-/
import Derived.Test.YtepngejmjdgccaaGreatDoorXS1
namespace Go.Av
open Go Go.RowKit Go.Proofs
set_option linter.unusedSimpArgs false
set_option linter.unusedVariables false
def kwT (k w:Int):List UInt8:=
 if k=0 then (if w=0\/w=1 then [105,110,116,111]else if w=2 then [98,101,104,105,110,100]else [97,104,101,97,100])
 else if k=1 then [114,101,112,101,97,108]else if k=2\/k=3 then [105,110]else if k=4 then [104,101,97,100]else if k=5 then [110,117,109,98,101,114]else if k=6 then [109,111,118,101]
 else if k=7 then [99,111,109,109,101,110,99,101]else if k=8 then [101,120,112,105,114,101]else if k=9 then [114,101,118,105,118,101]else if k=10 then [104,97,112,112,101,110]else [99,111,114,114,101,99,116]
def ofT (w:Int):List UInt8:=if w=0\/w=1\/w=2 then []else [32,111,102]
def edgeT (w:Int):List UInt8:=if w=0 then [32,102,105,114,115,116]else if w=1 then [32,108,97,115,116]else []
def nthT (n:Int):List UInt8:=if n=0 then [32,101,97,99,104]else [32,97,116,32]++Lib.itoa n
def forT (s:List UInt8):List UInt8:=if s=[]then []else [32,114,101,97,100,32,102,111,114,32]++s
def begT (s:Sta):List UInt8:=if s.kind=1 then [32,102,114,111,109,32,100,97,121,32]++Lib.itoa s.day else if s.kind=2 then [32,98,121,32,111,114,100,101,114]else if s.kind=3 then [32,111,110,32,101,118,101,110,116,32]++s.event else []
def quoW (l:List (List UInt8)):List UInt8:=quoT (joinT l)
def numT (n:Int):List UInt8:=if 0<=n then [32,105,116,101,109,32]++Lib.itoa n else []
def Itm.sfx (x:Itm):List UInt8:=forT x.for_++begT x.start
def Itm.bod (x:Itm) (b:List UInt8):List UInt8:=
 if x.kind=0 then ofT x.wh++(atT x.at_++(edgeT x.wh++([32,105,110,115,101,114,116,32]++(quoT (textT x.unit)++x.sfx))))
 else if x.kind=1 then atT x.at_++x.sfx
 else if x.kind=2 then atT x.at_++([32,102,111,114,32]++(quoW x.old++([32,112,117,116,32]++(quoW x.new++(nthT x.nth++x.sfx)))))
 else if x.kind=3 then (if x.old=[]then atT x.at_++([32,97,104,101,97,100,32,111,102,32,97,108,108,32,112,117,116,32]++(quoW x.new++x.sfx))else atT x.at_++([32,98,101,104,105,110,100,32]++(quoW x.old++([32,112,117,116,32]++(quoW x.new++(nthT x.nth++x.sfx))))))
 else if x.kind=4 then atT x.at_++([32,97,115,32]++(quoW x.new++x.sfx))
 else if x.kind=5 then atT x.at_++([32,97,115,32]++(x.label++x.sfx))
 else if x.kind=6 then atT x.at_++(32::(kwT 0 x.wh++(ofT x.wh++(atT x.to_++(edgeT x.wh++x.sfx)))))
 else if x.kind=7\/x.kind=8\/x.kind=9 then [32,97,99,116,32]++(Lib.itoa x.act++(numT x.item++([32,102,114,111,109,32,100,97,121,32]++Lib.itoa x.day)))
 else if x.kind=10 then 32::(x.event++([32,111,110,32,100,97,121,32]++Lib.itoa x.day))
 else [32,97,99,116,32]++(Lib.itoa x.act++([32,105,116,101,109,32]++(Lib.itoa x.item++([32,97,115,32]++b))))
mutual
def Itm.tx:Itm->List UInt8
 |⟨k,a,t,wh,n,u,o,w,l,f,s,ac,it,d,e,b⟩=>kwT k wh++Itm.bod ⟨k,a,t,wh,n,u,o,w,l,f,s,ac,it,d,e,b⟩ (Itm.tx1 b)
def Itm.tx1:List Itm->List UInt8
 |[]=>[]
 |x::_=>Itm.tx x
end
theorem Itm.tx_eq (x:Itm):x.tx=kwT x.kind x.wh++x.bod (Itm.tx1 x.by_):=by cases x;rw[Itm.tx]
theorem atT_sp (p:List Stp) {s:List UInt8} (h:Sp s):Sp (atT p++s):=by
 unfold atT
 split
 ·exact Sp.cons
 ·exact addrF_sp h
theorem ofT_sp (w:Int) {s:List UInt8} (h:Sp s):Sp (ofT w++s):=by
 unfold ofT
 split
 ·exact h
 ·exact Sp.cons
theorem forT_sp (f:List UInt8) {s:List UInt8} (h:Sp s):Sp (forT f++s):=by
 unfold forT
 split
 ·exact h
 ·exact Sp.cons
theorem begT_sp (s:Sta):Sp (begT s):=by
 unfold begT
 split
 ·exact Sp.cons
 split
 ·exact Sp.cons
 split
 ·exact Sp.cons
 ·exact Sp.nil
theorem sfx_sp (x:Itm):Sp x.sfx:=forT_sp _ (begT_sp _)
theorem edgeT_sp (w:Int) {s:List UInt8} (h:Sp s):Sp (edgeT w++s):=by
 unfold edgeT
 split
 ·exact Sp.cons
 split
 ·exact Sp.cons
 ·exact h
theorem numT_sp (n:Int) {s:List UInt8} (h:Sp s):Sp (numT n++s):=by
 unfold numT
 split
 ·exact Sp.cons
 ·exact h
theorem bod_sp (x:Itm) (b:List UInt8):Sp (x.bod b):=by
 unfold Itm.bod
 split
 ·exact ofT_sp _ (atT_sp _ (edgeT_sp _ Sp.cons))
 split
 ·exact atT_sp _ (sfx_sp x)
 split
 ·exact atT_sp _ Sp.cons
 split
 ·split<;>exact atT_sp _ Sp.cons
 split
 ·exact atT_sp _ Sp.cons
 split
 ·exact atT_sp _ Sp.cons
 split
 ·exact atT_sp _ Sp.cons
 split
 ·exact Sp.cons
 split
 ·exact Sp.cons
 ·exact Sp.cons
theorem name_ch {s:List UInt8} (h:nameOk s=true):s≠[]/\32∉s:=by
 unfold nameOk at h
 simp only[Bool.and_eq_true,decide_eq_true_eq,List.all_eq_true]at h
 refine⟨?_,λhc=>?_⟩
 ·rintro rfl;simp at h
 ·have:=h.2.2.2 _ hc
  revert this;decide
theorem beg_inj {s t:Sta} (hs:startOk s=true) (ht:startOk t=true) (h:begT s=begT t):s=t:=by
 unfold startOk inR at hs ht
 unfold begT at h
 obtain⟨k,d,e⟩:=s
 obtain⟨k',d',e'⟩:=t
 simp only at*
 split at hs<;>split at ht
 ·rename_i h1 h2
  rw[if_pos h1,if_pos h2]at h
  simp only[Bool.and_eq_true,decide_eq_true_eq]at hs ht
  rw[List.append_cancel_left_eq]at h
  rw[h1,h2,itoa_inj hs.1.1 ht.1.1 h,hs.2,ht.2]
 ·rename_i h1 h2
  rw[if_pos h1,if_neg h2]at h
  split at h
  ·simp at h
  split at h<;>simp at h
 ·rename_i h1 h2
  rw[if_neg h1,if_pos h2]at h
  split at h
  ·simp at h
  split at h<;>simp at h
 ·rename_i h1 h2
  rw[if_neg h1,if_neg h2]at h
  split at hs<;>split at ht
  ·rename_i h3 h4
   rw[if_neg (by omega),if_pos h3,if_neg (by omega),if_pos h4,List.append_cancel_left_eq]at h
   simp only[Bool.and_eq_true,decide_eq_true_eq]at hs ht
   rw[h3,h4,h,hs.1,ht.1]
  ·rename_i h3 h4
   rw[if_neg (by omega),if_pos h3,if_neg (c:=k'=3) h4]at h
   split at h<;>simp at h
  ·rename_i h3 h4
   rw[if_neg (c:=k'=2) (by omega),if_pos h4,if_neg (c:=k=3) h3]at h
   split at h<;>simp at h
  ·rename_i h3 h4
   rw[if_neg (c:=k=3) h3,if_neg (c:=k'=3) h4]at h
   split at hs<;>split at ht
   ·rename_i h5 h6
    simp only[Bool.and_eq_true,decide_eq_true_eq]at hs ht
    rw[hs.1,hs.2,ht.1,ht.2]
    rcases h5 with h5|h5<;>rcases h6 with h6|h6<;>subst h5 h6<;>simp at h ⊢
   ·cases ht
   ·cases hs
   ·cases hs
theorem sfx_inj {x y:Itm} (fx:x.for_=[]\/nameOk x.for_=true) (fy:y.for_=[]\/nameOk y.for_=true) (sx:startOk x.start=true) (sy:startOk y.start=true) (h:x.sfx=y.sfx):x.for_=y.for_/\x.start=y.start:=by
 unfold Itm.sfx forT at h
 have no:∀{s:Sta} {t:List UInt8},begT s=[32,114,101,97,100,32,102,111,114,32]++t->False:=by
  intro s t h
  unfold begT at h
  split at h
  ·simp at h
  split at h
  ·simp at h
  split at h<;>simp at h
 by_cases h1:x.for_=[]<;>by_cases h2:y.for_=[]
 ·rw[if_pos h1,if_pos h2]at h
  exact⟨by rw[h1,h2],beg_inj sx sy h⟩
 ·rw[if_pos h1,if_neg h2,List.nil_append,List.append_assoc]at h
  exact(no h).elim
 ·rw[if_neg h1,if_pos h2,List.nil_append,List.append_assoc]at h
  exact(no h.symm).elim
 ·rw[if_neg h1,if_neg h2,List.append_assoc,List.append_assoc,List.append_cancel_left_eq]at h
  obtain⟨e1,e2⟩:=wcut (name_ch (fx.resolve_left h1)).2 (name_ch (fy.resolve_left h2)).2 (begT_sp _) (begT_sp _) h
  exact⟨e1,beg_inj sx sy e2⟩
theorem seq_ok {l:List (List UInt8)} {n:Int} (h:okRow l n=true):∀w∈l,32∉w/\w≠[]:=by
 unfold okRow seqOk at h
 simp only[Bool.and_eq_true,List.all_eq_true]at h
 exact λw hw=>⟨word_nosp (h.1.2 w hw),(word_ch (h.1.2 w hw)).1⟩
theorem quoW_cut {l m:List (List UInt8)} {n k:Int} {s t:List UInt8} (hl:okRow l n=true) (hm:okRow m k=true) (h:quoW l++s=quoW m++t):l=m/\s=t:=by
 obtain⟨h1,h2⟩:=quo_cut h
 exact⟨join_inj (seq_ok hl) (seq_ok hm) h1,h2⟩
theorem nth_cut {a b:Int} {s t:List UInt8} (ha:0<=a) (hb:0<=b) (hs:Sp s) (ht:Sp t) (h:nthT a++s=nthT b++t):a=b/\s=t:=by
 unfold nthT at h
 by_cases h1:a=0<;>by_cases h2:b=0
 ·rw[if_pos h1,if_pos h2,List.append_cancel_left_eq]at h
  exact⟨by omega,h⟩
 ·rw[if_pos h1,if_neg h2]at h;simp at h
 ·rw[if_neg h1,if_pos h2]at h;simp at h
 ·rw[if_neg h1,if_neg h2,List.append_assoc,List.append_assoc,List.append_cancel_left_eq]at h
  exact ncut ha hb hs ht h
theorem stopW (w:List UInt8) (r:List UInt8) (h1:32∉w) (h2:w∉kindNames) (h3:Sp r):Stop (32::(w++r)):=.inr ⟨w,r,rfl,h1,h3,h2⟩
theorem beg_stop (s:Sta):Stop (begT s):=by
 unfold begT
 split
 ·exact stopW [102,114,111,109] _ (by decide) (by decide) Sp.cons
 split
 ·exact stopW [98,121] [32,111,114,100,101,114] (by decide) (by decide) Sp.cons
 split
 ·exact stopW [111,110] _ (by decide) (by decide) Sp.cons
 ·exact .inl rfl
theorem sfx_stop (x:Itm):Stop x.sfx:=by
 unfold Itm.sfx forT
 split
 ·exact beg_stop _
 ·rw[List.append_assoc]
  exact stopW [114,101,97,100] _ (by decide) (by decide) Sp.cons
theorem edge_stop (w:Int) {s:List UInt8} (h:Stop s):Stop (edgeT w++s):=by
 unfold edgeT
 split
 ·exact stopW [102,105,114,115,116] s (by decide) (by decide) h.sp
 split
 ·exact stopW [108,97,115,116] s (by decide) (by decide) h.sp
 ·exact h
theorem edge_cut {a b:Int} {s t:List UInt8} (ha:a=0\/a=1) (hb:b=0\/b=1) (h:edgeT a++s=edgeT b++t):a=b/\s=t:=by
 unfold edgeT at h
 rcases ha with rfl|rfl<;>rcases hb with rfl|rfl<;>simp at h ⊢
 ·exact h
 ·exact h
def kcode (s:List UInt8):Nat:=
 if s=[105,110,116,111]then 0 else if s=[98,101,104,105,110,100]then 2 else if s=[97,104,101,97,100]then 3 else if s=[114,101,112,101,97,108]then 11 else if s=[105,110]then 12 else if s=[104,101,97,100]then 14 else if s=[110,117,109,98,101,114]then 15 else if s=[109,111,118,101]then 16
 else if s=[99,111,109,109,101,110,99,101]then 17 else if s=[101,120,112,105,114,101]then 18 else if s=[114,101,118,105,118,101]then 19 else if s=[104,97,112,112,101,110]then 20 else 21
def kcls (k w:Int):Nat:=if k=0 then (if w=0\/w=1 then 0 else if w=2 then 2 else 3)else if k=3 then 12 else 10+k.toNat
theorem kcode_kw {k:Int} (w:Int) (h0:0<=k) (h1:k<=11):kcode (kwT k w)=kcls k w:=by
 have hk:k=0\/k=1\/k=2\/k=3\/k=4\/k=5\/k=6\/k=7\/k=8\/k=9\/k=10\/k=11:=by omega
 rcases hk with rfl|rfl|rfl|rfl|rfl|rfl|rfl|rfl|rfl|rfl|rfl|rfl
 ·unfold kwT kcls
  rw[if_pos rfl,if_pos rfl]
  split
  ·rfl
  split<;>rfl
 all_goals rfl
theorem kw_nosp {k:Int} (w:Int) (h0:0<=k) (h1:k<=11):32∉kwT k w:=by
 have hk:k=0\/k=1\/k=2\/k=3\/k=4\/k=5\/k=6\/k=7\/k=8\/k=9\/k=10\/k=11:=by omega
 rcases hk with rfl|rfl|rfl|rfl|rfl|rfl|rfl|rfl|rfl|rfl|rfl|rfl
 ·unfold kwT
  rw[if_pos rfl]
  split
  ·decide
  split<;>decide
 all_goals simp[kwT]
theorem wh_cls {a b:Int} (ha:0<=a) (ha3:a<=3) (hb:0<=b) (hb3:b<=3) (h:kwT 0 a=kwT 0 b):a=b\/((a=0\/a=1)/\(b=0\/b=1)):=by
 have h1:=kcode_kw a (Int.le_refl 0) (by decide)
 have h2:=kcode_kw b (Int.le_refl 0) (by decide)
 rw[h,h2]at h1
 unfold kcls at h1
 rw[if_pos rfl,if_pos rfl]at h1
 split at h1<;>split at h1<;>(try split at h1)<;>(try split at h1)<;>omega
theorem wh_cut {a b:Int} (ha:0<=a/\a<=3) (hb:0<=b/\b<=3) (hk:kwT 0 a=kwT 0 b) {p q:List Stp} (hp:addrOk p=true) (hq:addrOk q=true) {s t:List UInt8} (hs:Stop s) (ht:Stop t)
  (h:ofT a++(atT p++(edgeT a++s))=ofT b++(atT q++(edgeT b++t))):a=b/\p=q/\s=t:=by
 rcases wh_cls ha.1 ha.2 hb.1 hb.2 hk with rfl|⟨h1,h2⟩
 ·rw[List.append_cancel_left_eq]at h
  obtain⟨e1,e2⟩:=at_cut hp hq (edge_stop _ hs) (edge_stop _ ht) h
  rw[List.append_cancel_left_eq]at e2
  exact⟨rfl,e1,e2⟩
 ·unfold ofT at h
  rw[if_pos (by omega),if_pos (by omega),List.nil_append,List.nil_append]at h
  obtain⟨e1,e2⟩:=at_cut hp hq (edge_stop _ hs) (edge_stop _ ht) h
  obtain⟨e3,e4⟩:=edge_cut h1 h2 e2
  exact⟨e3,e1,e4⟩
end Go.Av
