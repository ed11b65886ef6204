/-
  SYNTAX, texts by the reference 4: the text of an item.
-/
import Derived.Test.YtepngejmjdgccaaGreatDoorXST3
namespace Go.Av
open Go Go.RowKit Go.Proofs
set_option linter.unusedSimpArgs false
set_option linter.unusedVariables false
theorem at_len {p:List Stp} (h:addrOk p=true):(atT p).length<=181:=by rw[at_ad,List.length_cons];have:=adT_len h;omega
theorem tx_len {x:Itm} (h:x.may=true) (h6:x.kind<=6):x.tx.length<=100000:=by
 obtain⟨hk,_,am,own⟩:=may_split h
 have q:=am h6
 have h1:=at_len q.at_
 have h2:=sfx_len q
 rw[Itm.tx_eq,List.length_append]
 have hw:(kwT x.kind x.wh).length<=8:=by
  have hkk:=k12 hk.1 hk.2
  rcases hkk with e|e|e|e|e|e|e|e|e|e|e|e<;>rw[e]
  ·unfold kwT
   rw[if_pos rfl]
   split
   ·decide
   split<;>decide
  all_goals simp[kwT]
 have ho:(ofT x.wh).length<=3:=by unfold ofT;split<;>simp
 have he:(edgeT x.wh).length<=6:=by
  unfold edgeT
  split
  ·simp
  split<;>simp
 have hkk:x.kind=0\/x.kind=1\/x.kind=2\/x.kind=3\/x.kind=4\/x.kind=5\/x.kind=6:=by omega
 unfold Itm.own at own
 rcases hkk with e|e|e|e|e|e|e
 ·rw[if_pos e]at own
  simp only[Bool.and_eq_true,decide_eq_true_eq]at own
  have h3:=(unit_text own.2.2.2).2
  have h4:=quoT_len (textT x.unit)
  rw[bod_0 e]
  simp only[List.length_append,List.length_cons,List.length_nil]
  omega
 ·rw[bod_1 e]
  simp only[List.length_append]
  omega
 ·rw[if_neg (by omega),if_pos e]at own
  simp only[Bool.and_eq_true,inR_iff]at own
  have h3:=quoW_len own.1
  have h4:=quoW_len own.2.1
  have h5:(nthT x.nth).length<=30:=by
   have:=itI_len own.2.2.1 (by omega)
   unfold nthT
   split
   ·simp
   ·simp;omega
  rw[bod_2 e]
  simp only[List.length_append,List.length_cons,List.length_nil]
  omega
 ·rw[if_neg (by omega),if_neg (by omega),if_pos e]at own
  simp only[Bool.and_eq_true,inR_iff]at own
  have h3:=quoW_len own.1
  have h4:=quoW_len own.2.1
  have h5:(nthT x.nth).length<=30:=by
   have:=itI_len own.2.2.1.1 (by omega)
   unfold nthT
   split
   ·simp
   ·simp;omega
  rw[bod_3 e]
  split<;>simp only[List.length_append,List.length_cons,List.length_nil]<;>omega
 ·rw[if_neg (by omega),if_neg (by omega),if_neg (by omega),if_pos e]at own
  have h3:=quoW_len own
  rw[bod_4 e]
  simp only[List.length_append,List.length_cons,List.length_nil]
  omega
 ·rw[if_neg (by omega),if_neg (by omega),if_neg (by omega),if_neg (by omega),if_pos e]at own
  have h3:=label_len own
  rw[bod_5 e]
  simp only[List.length_append,List.length_cons,List.length_nil]
  omega
 ·rw[if_neg (by omega),if_neg (by omega),if_neg (by omega),if_neg (by omega),if_neg (by omega),if_pos e]at own
  simp only[Bool.and_eq_true,inR_iff]at own
  have h3:=at_len own.2
  have h4:(kwT 0 x.wh).length<=8:=by
   unfold kwT
   rw[if_pos rfl]
   split
   ·decide
   split<;>decide
  rw[bod_6 e]
  simp only[List.length_append,List.length_cons,List.length_nil]
  omega
theorem told_at {x:Itm} (h:x=x.told) (hk:6<x.kind):x.at_=[]:=by
 rw[h]
 unfold Itm.told Itm.just
 rw[if_neg (by omega)]
 repeat' split
 all_goals rfl
theorem wh_ad (a:List UInt8) (w:Int):whP a w=kwT 0 w++(ofT w++(32::a)):=by
 unfold whP kwT ofT
 rw[if_pos rfl]
 by_cases h:w=0\/w=1
 ·rw[if_pos h,if_pos h,if_pos (by omega)];simp
 ·rw[if_neg h,if_neg h]
  by_cases h2:w=2
  ·rw[if_pos h2,if_pos h2,if_pos (by omega)];simp
  ·rw[if_neg h2,if_neg h2,if_neg (by omega)];simp
section
variable (G:Glob)
set_option maxHeartbeats 16000000 in
theorem f14:∀(x:Itm),x.Shorts->x.may=true->Pure G Tryz.prog 14 [.agg x.cs] (.str x.tx):=by
 refine Itm.ind λx ih hs hm=>?_
 obtain⟨hk,htold,am,own⟩:=may_split hm
 obtain⟨q,hby⟩:=(Itm.Shorts_eq x).1 hs
 have hat:addrOk x.at_=true:=by
  by_cases h6:x.kind<=6
  ·exact(am h6).at_
  ·rw[told_at htold (by omega)];decide
 clear htold
 have hA:=f33 G x.at_ hat
 have hAl:=adT_len hat
 have hE:=f35 G x.wh
 have hEl:(edgeT x.wh).length<=6:=by
  unfold edgeT
  split
  ·simp
  split<;>simp
 have hDig:∀n:Int,0<=n->n<=1048576->Pure G Tryz.prog 39 [.int .i64 n] (.str (Lib.itoa n)):=by
  intro n h0 h1
  obtain⟨m,rfl⟩:=Int.eq_ofNat_of_zero_le h0
  exact f39 G m (by omega)
 refine Pure.w c14 λR hR=>?_
 unfold s14 r14
 unfold Itm.own at own
 rcases k12 hk.1 hk.2 with e|e|e|e|e|e|e|e|e|e|e|e
 ·have aq:=am (by omega)
  obtain⟨s1,s2,s3,s4⟩:=start_facts aq.start
  have f1:=name_len aq.for_
  have d1:=itI_len s3 (by omega)
  have hD:=hDig x.start.day s3 s4
  rw[if_pos e]at own
  simp only[Bool.and_eq_true,decide_eq_true_eq,inR_iff]at own
  obtain⟨u1,u2⟩:=unit_text own.2.2.2
  have hU:=f29 G x.unit q.unit
  rw[u1,own.2.2.2]at hU
  have hQ:=f36 G (textT x.unit) (by omega)
  have hQl:=quoT_len (textT x.unit)
  have hW:=f34 G (adT x.at_) x.wh (by omega)
  have hWl:(whP (adT x.at_) x.wh).length<=200:=by
   unfold whP
   split
   ·simp;omega
   split<;>(simp;omega)
  have key:x.tx=whP (adT x.at_) x.wh++(edgeT x.wh++([32,105,110,115,101,114,116,32]++(quoT (textT x.unit)++x.sfx))):=by rw[Itm.tx_eq,bod_0 e,e,at_ad,wh_ad];simp
  clear own am hby ih
  rw[key]at hR
  unfold Itm.sfx forT begT at hR
  (repeat' (first|(with_reducible (first|refine split_case (λh=>?_) (λh=>?_)|refine gd_case (λh=>?_) (λh=>?_)|refine pick_case (λh=>?_) (λh=>?_))<;>(try simp only[Da,Db,Dc,Dw,De,Df,Dg,Dh]at h))|(with_reducible refine And.intro (by omega) ?_)|(with_reducible refine CALL_pure (hA) ?_)|(with_reducible refine CALL_pure (hU) ?_)|(with_reducible refine CALL_pure (hQ) ?_)|(with_reducible refine CALL_pure (hW) ?_)|(with_reducible refine CALL_pure (hE) ?_)|(with_reducible refine CALL_pure (hD) ?_)|simp only[EVz,seval,↓reduceIte,EV6,EV7,e,List.length_cons,List.length_nil,List.length_append,U.cs_fold]|(with_reducible intro blk hblk;(try(have hnx:=hblk;simp only[EVK]at hnx;first|(have hne:=And.intro hnx hne)|(have hne:=hnx))))|(with_reducible refine both_case ?_ ?_)|(with_reducible refine same_case ?_)|(exfalso;omega)))
  all_goals(refine RET.eq hR (congrArg AV.str ?_);simp[*];done)
 ·have aq:=am (by omega)
  obtain⟨s1,s2,s3,s4⟩:=start_facts aq.start
  have f1:=name_len aq.for_
  have d1:=itI_len s3 (by omega)
  have hD:=hDig x.start.day s3 s4
  have key:x.tx=[114,101,112,101,97,108]++(32::adT x.at_++x.sfx):=by rw[Itm.tx_eq,bod_1 e,e,at_ad];rfl
  rw[key]at hR
  unfold Itm.sfx forT begT at hR
  (repeat' (first|(with_reducible (first|refine split_case (λh=>?_) (λh=>?_)|refine gd_case (λh=>?_) (λh=>?_)|refine pick_case (λh=>?_) (λh=>?_))<;>(try simp only[Da,Db,Dc,Dw,De,Df,Dg,Dh]at h))|(with_reducible refine And.intro (by omega) ?_)|(with_reducible refine CALL_pure (hA) ?_)|(with_reducible refine CALL_pure (hD) ?_)|simp only[EVz,seval,↓reduceIte,EV6,EV7,e,List.length_cons,List.length_nil,List.length_append]|(with_reducible intro blk hblk;(try(have hnx:=hblk;simp only[EVK]at hnx;first|(have hne:=And.intro hnx hne)|(have hne:=hnx))))|(with_reducible refine both_case ?_ ?_)|(with_reducible refine same_case ?_)|(exfalso;omega)))
  all_goals(refine RET.eq hR (congrArg AV.str ?_);simp[*];done)
 ·have aq:=am (by omega)
  obtain⟨s1,s2,s3,s4⟩:=start_facts aq.start
  have f1:=name_len aq.for_
  have d1:=itI_len s3 (by omega)
  have hD:=hDig x.start.day s3 s4
  rw[if_neg (by omega),if_pos e]at own
  simp only[Bool.and_eq_true,inR_iff]at own
  obtain⟨o1,o2⟩:=okRow_facts own.1
  obtain⟨n1,n2⟩:=okRow_facts own.2.1
  have hO:=f37 G x.old (by omega) (λw hw=>by have:=o2 w hw;omega) (by have:=joinT_len own.1;omega)
  have hN:=f37 G x.new (by omega) (λw hw=>by have:=n2 w hw;omega) (by have:=joinT_len own.2.1;omega)
  have hOl:=quoW_len own.1
  have hNl:=quoW_len own.2.1
  have hT:=f38 G x.nth own.2.2.1 (by omega)
  have hTl:(nthT x.nth).length<=30:=by
   have:=itI_len own.2.2.1 (by omega)
   unfold nthT
   split
   ·simp
   ·simp;omega
  have key:x.tx=[105,110]++(32::adT x.at_++([32,102,111,114,32]++(quoW x.old++([32,112,117,116,32]++(quoW x.new++(nthT x.nth++x.sfx)))))):=by rw[Itm.tx_eq,bod_2 e,e,at_ad];rfl
  clear own am hby ih
  rw[key]at hR
  unfold Itm.sfx forT begT at hR
  (repeat' (first|(with_reducible (first|refine split_case (λh=>?_) (λh=>?_)|refine gd_case (λh=>?_) (λh=>?_)|refine pick_case (λh=>?_) (λh=>?_))<;>(try simp only[Da,Db,Dc,Dw,De,Df,Dg,Dh]at h))|(with_reducible refine And.intro (by omega) ?_)|(with_reducible refine CALL_pure (hA) ?_)|(with_reducible refine CALL_pure (hO) ?_)|(with_reducible refine CALL_pure (hN) ?_)|(with_reducible refine CALL_pure (hT) ?_)|(with_reducible refine CALL_pure (hD) ?_)|simp only[EVz,seval,↓reduceIte,EV6,EV7,e,List.length_cons,List.length_nil,List.length_append]|(with_reducible intro blk hblk;(try(have hnx:=hblk;simp only[EVK]at hnx;first|(have hne:=And.intro hnx hne)|(have hne:=hnx))))|(with_reducible refine both_case ?_ ?_)|(with_reducible refine same_case ?_)|(exfalso;omega)))
  all_goals(refine RET.eq hR (congrArg AV.str ?_);simp[*];done)
 ·have aq:=am (by omega)
  obtain⟨s1,s2,s3,s4⟩:=start_facts aq.start
  have f1:=name_len aq.for_
  have d1:=itI_len s3 (by omega)
  have hD:=hDig x.start.day s3 s4
  rw[if_neg (by omega),if_neg (by omega),if_pos e]at own
  simp only[Bool.and_eq_true,inR_iff]at own
  obtain⟨o1,o2⟩:=okRow_facts own.1
  obtain⟨n1,n2⟩:=okRow_facts own.2.1
  have hO:=f37 G x.old (by omega) (λw hw=>by have:=o2 w hw;omega) (by have:=joinT_len own.1;omega)
  have hN:=f37 G x.new (by omega) (λw hw=>by have:=n2 w hw;omega) (by have:=joinT_len own.2.1;omega)
  have hOl:=quoW_len own.1
  have hNl:=quoW_len own.2.1
  have hT:=f38 G x.nth own.2.2.1.1 (by omega)
  have hTl:(nthT x.nth).length<=30:=by
   have:=itI_len own.2.2.1.1 (by omega)
   unfold nthT
   split
   ·simp
   ·simp;omega
  by_cases ho:x.old=[]
  ·have ho2:(x.old.length:Int)=0:=by rw[ho];rfl
   have key:x.tx=[105,110]++(32::adT x.at_++([32,97,104,101,97,100,32,111,102,32,97,108,108,32,112,117,116,32]++(quoW x.new++x.sfx))):=by rw[Itm.tx_eq,bod_3 e,e,at_ad,if_pos ho];rfl
   clear own am hby ih
   rw[key]at hR
   unfold Itm.sfx forT begT at hR
   (repeat' (first|(with_reducible (first|refine split_case (λh=>?_) (λh=>?_)|refine gd_case (λh=>?_) (λh=>?_)|refine pick_case (λh=>?_) (λh=>?_))<;>(try simp only[Da,Db,Dc,Dw,De,Df,Dg,Dh]at h))|(with_reducible refine And.intro (by omega) ?_)|(with_reducible refine CALL_pure (hA) ?_)|(with_reducible refine CALL_pure (hN) ?_)|(with_reducible refine CALL_pure (hD) ?_)|simp only[EVz,seval,↓reduceIte,EV6,EV7,e,List.length_cons,List.length_nil,List.length_append,ho2]|(with_reducible intro blk hblk;(try(have hnx:=hblk;simp only[EVK]at hnx;first|(have hne:=And.intro hnx hne)|(have hne:=hnx))))|(with_reducible refine both_case ?_ ?_)|(with_reducible refine same_case ?_)|(exfalso;omega)))
   all_goals(refine RET.eq hR (congrArg AV.str ?_);simp[*];done)
  ·have ho2:¬((x.old.length:Int)=0):=by
    intro h0;exact ho (List.eq_nil_of_length_eq_zero (by omega))
   have key:x.tx=[105,110]++(32::adT x.at_++([32,98,101,104,105,110,100,32]++(quoW x.old++([32,112,117,116,32]++(quoW x.new++(nthT x.nth++x.sfx)))))):=by rw[Itm.tx_eq,bod_3 e,e,at_ad,if_neg ho];rfl
   clear own am hby ih
   rw[key]at hR
   unfold Itm.sfx forT begT at hR
   (repeat' (first|(with_reducible (first|refine split_case (λh=>?_) (λh=>?_)|refine gd_case (λh=>?_) (λh=>?_)|refine pick_case (λh=>?_) (λh=>?_))<;>(try simp only[Da,Db,Dc,Dw,De,Df,Dg,Dh]at h))|(with_reducible refine And.intro (by omega) ?_)|(with_reducible refine CALL_pure (hA) ?_)|(with_reducible refine CALL_pure (hO) ?_)|(with_reducible refine CALL_pure (hN) ?_)|(with_reducible refine CALL_pure (hT) ?_)|(with_reducible refine CALL_pure (hD) ?_)|simp only[EVz,seval,↓reduceIte,EV6,EV7,e,List.length_cons,List.length_nil,List.length_append,ho2]|(with_reducible intro blk hblk;(try(have hnx:=hblk;simp only[EVK]at hnx;first|(have hne:=And.intro hnx hne)|(have hne:=hnx))))|(with_reducible refine both_case ?_ ?_)|(with_reducible refine same_case ?_)|(exfalso;omega)))
   all_goals(refine RET.eq hR (congrArg AV.str ?_);simp[*];done)
 ·have aq:=am (by omega)
  obtain⟨s1,s2,s3,s4⟩:=start_facts aq.start
  have f1:=name_len aq.for_
  have d1:=itI_len s3 (by omega)
  have hD:=hDig x.start.day s3 s4
  rw[if_neg (by omega),if_neg (by omega),if_neg (by omega),if_pos e]at own
  obtain⟨n1,n2⟩:=okRow_facts own
  have hN:=f37 G x.new (by omega) (λw hw=>by have:=n2 w hw;omega) (by have:=joinT_len own;omega)
  have hNl:=quoW_len own
  have key:x.tx=[104,101,97,100]++(32::adT x.at_++([32,97,115,32]++(quoW x.new++x.sfx))):=by rw[Itm.tx_eq,bod_4 e,e,at_ad];rfl
  clear own am hby ih
  rw[key]at hR
  unfold Itm.sfx forT begT at hR
  (repeat' (first|(with_reducible (first|refine split_case (λh=>?_) (λh=>?_)|refine gd_case (λh=>?_) (λh=>?_)|refine pick_case (λh=>?_) (λh=>?_))<;>(try simp only[Da,Db,Dc,Dw,De,Df,Dg,Dh]at h))|(with_reducible refine And.intro (by omega) ?_)|(with_reducible refine CALL_pure (hA) ?_)|(with_reducible refine CALL_pure (hN) ?_)|(with_reducible refine CALL_pure (hD) ?_)|simp only[EVz,seval,↓reduceIte,EV6,EV7,e,List.length_cons,List.length_nil,List.length_append]|(with_reducible intro blk hblk;(try(have hnx:=hblk;simp only[EVK]at hnx;first|(have hne:=And.intro hnx hne)|(have hne:=hnx))))|(with_reducible refine both_case ?_ ?_)|(with_reducible refine same_case ?_)|(exfalso;omega)))
  all_goals(refine RET.eq hR (congrArg AV.str ?_);simp[*];done)
 ·have aq:=am (by omega)
  obtain⟨s1,s2,s3,s4⟩:=start_facts aq.start
  have f1:=name_len aq.for_
  have d1:=itI_len s3 (by omega)
  have hD:=hDig x.start.day s3 s4
  rw[if_neg (by omega),if_neg (by omega),if_neg (by omega),if_neg (by omega),if_pos e]at own
  have hLl:=label_len own
  have key:x.tx=[110,117,109,98,101,114]++(32::adT x.at_++([32,97,115,32]++(x.label++x.sfx))):=by rw[Itm.tx_eq,bod_5 e,e,at_ad];rfl
  clear own am hby ih
  rw[key]at hR
  unfold Itm.sfx forT begT at hR
  (repeat' (first|(with_reducible (first|refine split_case (λh=>?_) (λh=>?_)|refine gd_case (λh=>?_) (λh=>?_)|refine pick_case (λh=>?_) (λh=>?_))<;>(try simp only[Da,Db,Dc,Dw,De,Df,Dg,Dh]at h))|(with_reducible refine And.intro (by omega) ?_)|(with_reducible refine CALL_pure (hA) ?_)|(with_reducible refine CALL_pure (hD) ?_)|simp only[EVz,seval,↓reduceIte,EV6,EV7,e,List.length_cons,List.length_nil,List.length_append]|(with_reducible intro blk hblk;(try(have hnx:=hblk;simp only[EVK]at hnx;first|(have hne:=And.intro hnx hne)|(have hne:=hnx))))|(with_reducible refine both_case ?_ ?_)|(with_reducible refine same_case ?_)|(exfalso;omega)))
  all_goals(refine RET.eq hR (congrArg AV.str ?_);simp[*];done)
 ·have aq:=am (by omega)
  obtain⟨s1,s2,s3,s4⟩:=start_facts aq.start
  have f1:=name_len aq.for_
  have d1:=itI_len s3 (by omega)
  have hD:=hDig x.start.day s3 s4
  rw[if_neg (by omega),if_neg (by omega),if_neg (by omega),if_neg (by omega),if_neg (by omega),if_pos e]at own
  simp only[Bool.and_eq_true,inR_iff]at own
  have hB:=f33 G x.to_ own.2
  have hBl:=adT_len own.2
  have hW:=f34 G (adT x.to_) x.wh (by omega)
  have hWl:(whP (adT x.to_) x.wh).length<=200:=by
   unfold whP
   split
   ·simp;omega
   split<;>(simp;omega)
  have key:x.tx=[109,111,118,101]++(32::adT x.at_++(32::whP (adT x.to_) x.wh++(edgeT x.wh++x.sfx))):=by rw[Itm.tx_eq,bod_6 e,e,at_ad x.at_,at_ad x.to_,wh_ad];simp[kwT]
  clear own am hby ih
  rw[key]at hR
  unfold Itm.sfx forT begT at hR
  (repeat' (first|(with_reducible (first|refine split_case (λh=>?_) (λh=>?_)|refine gd_case (λh=>?_) (λh=>?_)|refine pick_case (λh=>?_) (λh=>?_))<;>(try simp only[Da,Db,Dc,Dw,De,Df,Dg,Dh]at h))|(with_reducible refine And.intro (by omega) ?_)|(with_reducible refine CALL_pure (hA) ?_)|(with_reducible refine CALL_pure (hB) ?_)|(with_reducible refine CALL_pure (hW) ?_)|(with_reducible refine CALL_pure (hE) ?_)|(with_reducible refine CALL_pure (hD) ?_)|simp only[EVz,seval,↓reduceIte,EV6,EV7,e,List.length_cons,List.length_nil,List.length_append]|(with_reducible intro blk hblk;(try(have hnx:=hblk;simp only[EVK]at hnx;first|(have hne:=And.intro hnx hne)|(have hne:=hnx))))|(with_reducible refine both_case ?_ ?_)|(with_reducible refine same_case ?_)|(exfalso;omega)))
  all_goals(refine RET.eq hR (congrArg AV.str ?_);simp[*];done)
 ·rw[if_neg (by omega),if_neg (by omega),if_neg (by omega),if_neg (by omega),if_neg (by omega),if_neg (by omega),if_pos (by omega)]at own
  simp only[Bool.and_eq_true,inR_iff]at own
  have hD1:=hDig x.act (by omega) own.1.2
  have hD3:=hDig x.day own.2.2.1 own.2.2.2
  have l1:=itI_len (n:=x.act) (by omega) (by omega)
  have l3:=itI_len own.2.2.1 (by omega)
  have key:x.tx=[99,111,109,109,101,110,99,101]++([32,97,99,116,32]++(Lib.itoa x.act++(numT x.item++([32,102,114,111,109,32,100,97,121,32]++Lib.itoa x.day)))):=by rw[Itm.tx_eq,bod_7 (by omega),e];rfl
  have hl:(synNames.map srow).length=12:=rfl
  have hg:(synNames.map srow).getD 7 []=[.str [99,111,109,109,101,110,99,101]]:=rfl
  have hgt:Int.toNat 7=7:=rfl
  by_cases hi:0<=x.item
  ·have hD2:=hDig x.item hi (by omega)
   have l2:=itI_len hi (by omega)
   unfold numT at key
   rw[if_pos hi]at key
   rw[key]at hR
   clear own am hby ih
   (repeat' (first|(with_reducible (first|refine split_case (λh=>?_) (λh=>?_)|refine gd_case (λh=>?_) (λh=>?_)|refine pick_case (λh=>?_) (λh=>?_))<;>(try simp only[Da,Db,Dc,Dw,De,Df,Dg,Dh]at h))|(with_reducible refine And.intro (by omega) ?_)|(with_reducible refine CALL_pure (hA) ?_)|(with_reducible refine CALL_pure (hD1) ?_)|(with_reducible refine CALL_pure (hD2) ?_)|(with_reducible refine CALL_pure (hD3) ?_)|(with_reducible refine CALL_pure (f7 G) ?_)|simp only[EVz,seval,↓reduceIte,EV6,EV7,e,hl,hg,hgt,hi,List.length_cons,List.length_nil,List.length_append]|(with_reducible intro blk hblk;(try(have hnx:=hblk;simp only[EVK]at hnx;first|(have hne:=And.intro hnx hne)|(have hne:=hnx))))|(with_reducible refine both_case ?_ ?_)|(with_reducible refine same_case ?_)|(exfalso;omega)))
   all_goals(refine RET.eq hR (congrArg AV.str ?_);simp;done)
  ·unfold numT at key
   rw[if_neg hi]at key
   rw[key]at hR
   clear own am hby ih
   (repeat' (first|(with_reducible (first|refine split_case (λh=>?_) (λh=>?_)|refine gd_case (λh=>?_) (λh=>?_)|refine pick_case (λh=>?_) (λh=>?_))<;>(try simp only[Da,Db,Dc,Dw,De,Df,Dg,Dh]at h))|(with_reducible refine And.intro (by omega) ?_)|(with_reducible refine CALL_pure (hA) ?_)|(with_reducible refine CALL_pure (hD1) ?_)|(with_reducible refine CALL_pure (hD3) ?_)|(with_reducible refine CALL_pure (f7 G) ?_)|simp only[EVz,seval,↓reduceIte,EV6,EV7,e,hl,hg,hgt,hi,List.length_cons,List.length_nil,List.length_append]|(with_reducible intro blk hblk;(try(have hnx:=hblk;simp only[EVK]at hnx;first|(have hne:=And.intro hnx hne)|(have hne:=hnx))))|(with_reducible refine both_case ?_ ?_)|(with_reducible refine same_case ?_)|(exfalso;omega)))
   all_goals(refine RET.eq hR (congrArg AV.str ?_);simp;done)
 ·rw[if_neg (by omega),if_neg (by omega),if_neg (by omega),if_neg (by omega),if_neg (by omega),if_neg (by omega),if_pos (by omega)]at own
  simp only[Bool.and_eq_true,inR_iff]at own
  have hD1:=hDig x.act (by omega) own.1.2
  have hD3:=hDig x.day own.2.2.1 own.2.2.2
  have l1:=itI_len (n:=x.act) (by omega) (by omega)
  have l3:=itI_len own.2.2.1 (by omega)
  have key:x.tx=[101,120,112,105,114,101]++([32,97,99,116,32]++(Lib.itoa x.act++(numT x.item++([32,102,114,111,109,32,100,97,121,32]++Lib.itoa x.day)))):=by rw[Itm.tx_eq,bod_7 (by omega),e];rfl
  have hl:(synNames.map srow).length=12:=rfl
  have hg:(synNames.map srow).getD 8 []=[.str [101,120,112,105,114,101]]:=rfl
  have hgt:Int.toNat 8=8:=rfl
  by_cases hi:0<=x.item
  ·have hD2:=hDig x.item hi (by omega)
   have l2:=itI_len hi (by omega)
   unfold numT at key
   rw[if_pos hi]at key
   rw[key]at hR
   clear own am hby ih
   (repeat' (first|(with_reducible (first|refine split_case (λh=>?_) (λh=>?_)|refine gd_case (λh=>?_) (λh=>?_)|refine pick_case (λh=>?_) (λh=>?_))<;>(try simp only[Da,Db,Dc,Dw,De,Df,Dg,Dh]at h))|(with_reducible refine And.intro (by omega) ?_)|(with_reducible refine CALL_pure (hA) ?_)|(with_reducible refine CALL_pure (hD1) ?_)|(with_reducible refine CALL_pure (hD2) ?_)|(with_reducible refine CALL_pure (hD3) ?_)|(with_reducible refine CALL_pure (f7 G) ?_)|simp only[EVz,seval,↓reduceIte,EV6,EV7,e,hl,hg,hgt,hi,List.length_cons,List.length_nil,List.length_append]|(with_reducible intro blk hblk;(try(have hnx:=hblk;simp only[EVK]at hnx;first|(have hne:=And.intro hnx hne)|(have hne:=hnx))))|(with_reducible refine both_case ?_ ?_)|(with_reducible refine same_case ?_)|(exfalso;omega)))
   all_goals(refine RET.eq hR (congrArg AV.str ?_);simp;done)
  ·unfold numT at key
   rw[if_neg hi]at key
   rw[key]at hR
   clear own am hby ih
   (repeat' (first|(with_reducible (first|refine split_case (λh=>?_) (λh=>?_)|refine gd_case (λh=>?_) (λh=>?_)|refine pick_case (λh=>?_) (λh=>?_))<;>(try simp only[Da,Db,Dc,Dw,De,Df,Dg,Dh]at h))|(with_reducible refine And.intro (by omega) ?_)|(with_reducible refine CALL_pure (hA) ?_)|(with_reducible refine CALL_pure (hD1) ?_)|(with_reducible refine CALL_pure (hD3) ?_)|(with_reducible refine CALL_pure (f7 G) ?_)|simp only[EVz,seval,↓reduceIte,EV6,EV7,e,hl,hg,hgt,hi,List.length_cons,List.length_nil,List.length_append]|(with_reducible intro blk hblk;(try(have hnx:=hblk;simp only[EVK]at hnx;first|(have hne:=And.intro hnx hne)|(have hne:=hnx))))|(with_reducible refine both_case ?_ ?_)|(with_reducible refine same_case ?_)|(exfalso;omega)))
   all_goals(refine RET.eq hR (congrArg AV.str ?_);simp;done)
 ·rw[if_neg (by omega),if_neg (by omega),if_neg (by omega),if_neg (by omega),if_neg (by omega),if_neg (by omega),if_pos (by omega)]at own
  simp only[Bool.and_eq_true,inR_iff]at own
  have hD1:=hDig x.act (by omega) own.1.2
  have hD3:=hDig x.day own.2.2.1 own.2.2.2
  have l1:=itI_len (n:=x.act) (by omega) (by omega)
  have l3:=itI_len own.2.2.1 (by omega)
  have key:x.tx=[114,101,118,105,118,101]++([32,97,99,116,32]++(Lib.itoa x.act++(numT x.item++([32,102,114,111,109,32,100,97,121,32]++Lib.itoa x.day)))):=by rw[Itm.tx_eq,bod_7 (by omega),e];rfl
  have hl:(synNames.map srow).length=12:=rfl
  have hg:(synNames.map srow).getD 9 []=[.str [114,101,118,105,118,101]]:=rfl
  have hgt:Int.toNat 9=9:=rfl
  by_cases hi:0<=x.item
  ·have hD2:=hDig x.item hi (by omega)
   have l2:=itI_len hi (by omega)
   unfold numT at key
   rw[if_pos hi]at key
   rw[key]at hR
   clear own am hby ih
   (repeat' (first|(with_reducible (first|refine split_case (λh=>?_) (λh=>?_)|refine gd_case (λh=>?_) (λh=>?_)|refine pick_case (λh=>?_) (λh=>?_))<;>(try simp only[Da,Db,Dc,Dw,De,Df,Dg,Dh]at h))|(with_reducible refine And.intro (by omega) ?_)|(with_reducible refine CALL_pure (hA) ?_)|(with_reducible refine CALL_pure (hD1) ?_)|(with_reducible refine CALL_pure (hD2) ?_)|(with_reducible refine CALL_pure (hD3) ?_)|(with_reducible refine CALL_pure (f7 G) ?_)|simp only[EVz,seval,↓reduceIte,EV6,EV7,e,hl,hg,hgt,hi,List.length_cons,List.length_nil,List.length_append]|(with_reducible intro blk hblk;(try(have hnx:=hblk;simp only[EVK]at hnx;first|(have hne:=And.intro hnx hne)|(have hne:=hnx))))|(with_reducible refine both_case ?_ ?_)|(with_reducible refine same_case ?_)|(exfalso;omega)))
   all_goals(refine RET.eq hR (congrArg AV.str ?_);simp;done)
  ·unfold numT at key
   rw[if_neg hi]at key
   rw[key]at hR
   clear own am hby ih
   (repeat' (first|(with_reducible (first|refine split_case (λh=>?_) (λh=>?_)|refine gd_case (λh=>?_) (λh=>?_)|refine pick_case (λh=>?_) (λh=>?_))<;>(try simp only[Da,Db,Dc,Dw,De,Df,Dg,Dh]at h))|(with_reducible refine And.intro (by omega) ?_)|(with_reducible refine CALL_pure (hA) ?_)|(with_reducible refine CALL_pure (hD1) ?_)|(with_reducible refine CALL_pure (hD3) ?_)|(with_reducible refine CALL_pure (f7 G) ?_)|simp only[EVz,seval,↓reduceIte,EV6,EV7,e,hl,hg,hgt,hi,List.length_cons,List.length_nil,List.length_append]|(with_reducible intro blk hblk;(try(have hnx:=hblk;simp only[EVK]at hnx;first|(have hne:=And.intro hnx hne)|(have hne:=hnx))))|(with_reducible refine both_case ?_ ?_)|(with_reducible refine same_case ?_)|(exfalso;omega)))
   all_goals(refine RET.eq hR (congrArg AV.str ?_);simp;done)
 ·rw[if_neg (by omega),if_neg (by omega),if_neg (by omega),if_neg (by omega),if_neg (by omega),if_neg (by omega),if_neg (by omega),if_pos e]at own
  simp only[Bool.and_eq_true,inR_iff]at own
  have hD3:=hDig x.day own.2.1 own.2.2
  have l1:=name_len (.inr own.1)
  have l3:=itI_len own.2.1 (by omega)
  have key:x.tx=[104,97,112,112,101,110]++(32::(x.event++([32,111,110,32,100,97,121,32]++Lib.itoa x.day))):=by rw[Itm.tx_eq,bod_10 e,e];rfl
  rw[key]at hR
  clear own am hby ih
  (repeat' (first|(with_reducible (first|refine split_case (λh=>?_) (λh=>?_)|refine gd_case (λh=>?_) (λh=>?_)|refine pick_case (λh=>?_) (λh=>?_))<;>(try simp only[Da,Db,Dc,Dw,De,Df,Dg,Dh]at h))|(with_reducible refine And.intro (by omega) ?_)|(with_reducible refine CALL_pure (hA) ?_)|(with_reducible refine CALL_pure (hD3) ?_)|simp only[EVz,seval,↓reduceIte,EV6,EV7,e,List.length_cons,List.length_nil,List.length_append]|(with_reducible intro blk hblk;(try(have hnx:=hblk;simp only[EVK]at hnx;first|(have hne:=And.intro hnx hne)|(have hne:=hnx))))|(with_reducible refine both_case ?_ ?_)|(with_reducible refine same_case ?_)|(exfalso;omega)))
  all_goals(refine RET.eq hR (congrArg AV.str ?_);simp;done)
 ·rw[if_neg (by omega),if_neg (by omega),if_neg (by omega),if_neg (by omega),if_neg (by omega),if_neg (by omega),if_neg (by omega),if_neg (by omega),if_pos e]at own
  simp only[Bool.and_eq_true,inR_iff]at own
  have hD1:=hDig x.act (by omega) own.1.2
  have hD2:=hDig x.item own.2.1.1 (by omega)
  have l1:=itI_len (n:=x.act) (by omega) (by omega)
  have l2:=itI_len own.2.1.1 (by omega)
  rcases hb:x.by_ with _|⟨y,l⟩
  ·rw[hb,Itm.mayOne]at own;simp at own
  have hy1:=own.2.2
  rw[hb,Itm.mayOne_cons]at hy1
  simp only[Bool.and_eq_true,List.isEmpty_iff,inR_iff]at hy1
  have hY:=ih y (by rw[hb];simp) (hby y (by rw[hb];simp)) hy1.2
  have lY:=tx_len hy1.2 hy1.1.2.2
  have key:x.tx=[99,111,114,114,101,99,116]++([32,97,99,116,32]++(Lib.itoa x.act++([32,105,116,101,109,32]++(Lib.itoa x.item++([32,97,115,32]++y.tx))))):=by rw[Itm.tx_eq,bod_11 e,e,hb];rfl
  rw[key]at hR
  clear own am hby ih
  (repeat' (first|(with_reducible (first|refine split_case (λh=>?_) (λh=>?_)|refine gd_case (λh=>?_) (λh=>?_)|refine pick_case (λh=>?_) (λh=>?_))<;>(try simp only[Da,Db,Dc,Dw,De,Df,Dg,Dh]at h))|(with_reducible refine And.intro (by omega) ?_)|(with_reducible refine CALL_pure (hA) ?_)|(with_reducible refine CALL_pure (hD1) ?_)|(with_reducible refine CALL_pure (hD2) ?_)|(with_reducible refine CALL_pure (hY) ?_)|simp only[EVz,seval,↓reduceIte,EV6,EV7,e,hb,List.map_cons,List.length_cons,List.length_nil,List.length_append,List.getD_cons_zero]|(with_reducible intro blk hblk;(try(have hnx:=hblk;simp only[EVK]at hnx;first|(have hne:=And.intro hnx hne)|(have hne:=hnx))))|(with_reducible refine both_case ?_ ?_)|(with_reducible refine same_case ?_)|(exfalso;omega)))
  all_goals(refine RET.eq hR (congrArg AV.str ?_);simp;done)
end
end Go.Av
