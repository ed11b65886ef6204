/-
  LINT, 39: the findings for an item by the reference.
-/
import Derived.Test.YtppjieiiibgagaaGreatDoorQXL36toXLs
set_option linter.all false
namespace Go.Av
open Go Go.RowKit Go.Proofs List
section
variable (G:Glob)
set_option maxHeartbeats 4000000 in
set_option maxRecDepth 100000 in
def item_1 (x:Itm) (hs:x.Shorts) (hm:x.may=true) (hk:x.kind=1):aj G Tryz.prog 46 [.agg x.cs] [] (Opn 88 6 (x.refs.map Fnd.cs)):=by
 obtain⟨q,hby⟩:=(o5 x).1 hs;have hM:=f30 G x hs;rw[hm]at hM;have hb:=f100 G x;have h1:=f99 G x.at_;have h2:=f99 G x.to_;have hl1:=f102 G x.at_ q.at_;have hl2:=f102 G x.to_ q.to_;have he:=f103 G x.at_ x.to_ (by have:=q.at_;omega);have hw:=f104 G x.old x.new (by have:=q.old;omega);have hn:=f101 G;refine sJ c46 λR hR=>?_;unfold s46 r46;rw[rR,if_pos hm]at hR
 have e1:bB x=optF (bD x.at_) (fw 9 cK):=by
  unfold bB dv dr dq dk dh besR optF;simp[hk]
 rw[e1,if_neg (by omega),append_nil]at hR;(repeat' (first|(with_reducible (first|refine ae (λh=>?_) λh=>?_|refine af (λh=>?_) λh=>?_|refine ax (λh=>?_) λh=>?_)<;>(try simp only[DZ]at h))|(with_reducible first|refine AI (by omega) ?_|refine ab hM ?_|refine ab h1 ?_|refine ab (f48 G _ _) ?_)|simp only[EV,seval,hk]|(with_reducible intro blk hblk;(try(have hnx:=hblk;simp only[EVK]at hnx;first|(have hne:=AI hnx hne)|(have hne:=hnx))))|(with_reducible first|refine ag ?_ ?_|refine ai ?_)|(refine⟨[],rfl,(by simp),rfl,?_⟩)|(refine aZ (by first|exact dD|exact aS) rfl (by first|rfl|simp) rfl rfl (by assumption) (by simp) (λgn=>?_))|(exfalso;omega)))
 all_goals(refine hR _ _ _ (by simp[optF,db,cK,bA,dJ,aT,aV, *];done) ?_;exact SubN.refl _)
set_option maxHeartbeats 4000000 in
set_option maxRecDepth 100000 in
def item_2 (x:Itm) (hs:x.Shorts) (hm:x.may=true) (hk:x.kind=2):aj G Tryz.prog 46 [.agg x.cs] [] (Opn 88 6 (x.refs.map Fnd.cs)):=by
 obtain⟨q,hby⟩:=(o5 x).1 hs;have hM:=f30 G x hs;rw[hm]at hM;have hb:=f100 G x;have h1:=f99 G x.at_;have h2:=f99 G x.to_;have hl1:=f102 G x.at_ q.at_;have hl2:=f102 G x.to_ q.to_;have he:=f103 G x.at_ x.to_ (by have:=q.at_;omega);have hw:=f104 G x.old x.new (by have:=q.old;omega);have hn:=f101 G;refine sJ c46 λR hR=>?_;unfold s46 r46;rw[rR,if_pos hm]at hR
 have e1:bB x=optF (bD x.at_) (fw 9 cK)++optF (decide (x.old=x.new)) (fw 11 aT):=by
  unfold bB dv dr dq dk dh besR optF;simp[hk]
 rw[e1,if_neg (by omega),append_nil]at hR;(repeat' (first|(with_reducible (first|refine ae (λh=>?_) λh=>?_|refine af (λh=>?_) λh=>?_|refine ax (λh=>?_) λh=>?_)<;>(try simp only[DZ]at h))|(with_reducible first|refine AI (by omega) ?_|refine ab hM ?_|refine ab h1 ?_|refine ab hw ?_|refine ab (f48 G _ _) ?_)|simp only[EV,seval,hk]|(with_reducible intro blk hblk;(try(have hnx:=hblk;simp only[EVK]at hnx;first|(have hne:=AI hnx hne)|(have hne:=hnx))))|(with_reducible first|refine ag ?_ ?_|refine ai ?_)|(refine⟨[],rfl,(by simp),rfl,?_⟩)|(refine aZ (by first|exact dD|exact aS) rfl (by first|rfl|simp) rfl rfl (by assumption) (by simp) (λgn=>?_))|(exfalso;omega)))
 all_goals(refine hR _ _ _ (by simp[optF,db,cK,bA,dJ,aT,aV, *];done) ?_;exact SubN.refl _)
set_option maxHeartbeats 4000000 in
set_option maxRecDepth 100000 in
def item_3 (x:Itm) (hs:x.Shorts) (hm:x.may=true) (hk:x.kind=3):aj G Tryz.prog 46 [.agg x.cs] [] (Opn 88 6 (x.refs.map Fnd.cs)):=by
 obtain⟨q,hby⟩:=(o5 x).1 hs;have hM:=f30 G x hs;rw[hm]at hM;have hb:=f100 G x;have h1:=f99 G x.at_;have h2:=f99 G x.to_;have hl1:=f102 G x.at_ q.at_;have hl2:=f102 G x.to_ q.to_;have he:=f103 G x.at_ x.to_ (by have:=q.at_;omega);have hw:=f104 G x.old x.new (by have:=q.old;omega);have hn:=f101 G;refine sJ c46 λR hR=>?_;unfold s46 r46;rw[rR,if_pos hm]at hR
 have e1:bB x=optF (bD x.at_) (fw 9 cK):=by
  unfold bB dv dr dq dk dh besR optF;simp[hk]
 rw[e1,if_neg (by omega),append_nil]at hR;(repeat' (first|(with_reducible (first|refine ae (λh=>?_) λh=>?_|refine af (λh=>?_) λh=>?_|refine ax (λh=>?_) λh=>?_)<;>(try simp only[DZ]at h))|(with_reducible first|refine AI (by omega) ?_|refine ab hM ?_|refine ab h1 ?_|refine ab (f48 G _ _) ?_)|simp only[EV,seval,hk]|(with_reducible intro blk hblk;(try(have hnx:=hblk;simp only[EVK]at hnx;first|(have hne:=AI hnx hne)|(have hne:=hnx))))|(with_reducible first|refine ag ?_ ?_|refine ai ?_)|(refine⟨[],rfl,(by simp),rfl,?_⟩)|(refine aZ (by first|exact dD|exact aS) rfl (by first|rfl|simp) rfl rfl (by assumption) (by simp) (λgn=>?_))|(exfalso;omega)))
 all_goals(refine hR _ _ _ (by simp[optF,db,cK,bA,dJ,aT,aV, *];done) ?_;exact SubN.refl _)
set_option maxHeartbeats 4000000 in
set_option maxRecDepth 100000 in
def item_4 (x:Itm) (hs:x.Shorts) (hm:x.may=true) (hk:x.kind=4):aj G Tryz.prog 46 [.agg x.cs] [] (Opn 88 6 (x.refs.map Fnd.cs)):=by
 obtain⟨q,hby⟩:=(o5 x).1 hs;have hM:=f30 G x hs;rw[hm]at hM;have hb:=f100 G x;have h1:=f99 G x.at_;have h2:=f99 G x.to_;have hl1:=f102 G x.at_ q.at_;have hl2:=f102 G x.to_ q.to_;have he:=f103 G x.at_ x.to_ (by have:=q.at_;omega);have hw:=f104 G x.old x.new (by have:=q.old;omega);have hn:=f101 G;refine sJ c46 λR hR=>?_;unfold s46 r46;rw[rR,if_pos hm]at hR
 have e1:bB x=optF (bD x.at_) (fw 9 cK):=by
  unfold bB dv dr dq dk dh besR optF;simp[hk]
 rw[e1,if_neg (by omega),append_nil]at hR;(repeat' (first|(with_reducible (first|refine ae (λh=>?_) λh=>?_|refine af (λh=>?_) λh=>?_|refine ax (λh=>?_) λh=>?_)<;>(try simp only[DZ]at h))|(with_reducible first|refine AI (by omega) ?_|refine ab hM ?_|refine ab h1 ?_|refine ab (f48 G _ _) ?_)|simp only[EV,seval,hk]|(with_reducible intro blk hblk;(try(have hnx:=hblk;simp only[EVK]at hnx;first|(have hne:=AI hnx hne)|(have hne:=hnx))))|(with_reducible first|refine ag ?_ ?_|refine ai ?_)|(refine⟨[],rfl,(by simp),rfl,?_⟩)|(refine aZ (by first|exact dD|exact aS) rfl (by first|rfl|simp) rfl rfl (by assumption) (by simp) (λgn=>?_))|(exfalso;omega)))
 all_goals(refine hR _ _ _ (by simp[optF,db,cK,bA,dJ,aT,aV, *];done) ?_;exact SubN.refl _)
set_option maxHeartbeats 4000000 in
set_option maxRecDepth 100000 in
def item_7 (x:Itm) (hs:x.Shorts) (hm:x.may=true) (hk:x.kind=7):aj G Tryz.prog 46 [.agg x.cs] [] (Opn 88 6 (x.refs.map Fnd.cs)):=by
 obtain⟨q,hby⟩:=(o5 x).1 hs;have hM:=f30 G x hs;rw[hm]at hM;have hb:=f100 G x;have h1:=f99 G x.at_;have h2:=f99 G x.to_;have hl1:=f102 G x.at_ q.at_;have hl2:=f102 G x.to_ q.to_;have he:=f103 G x.at_ x.to_ (by have:=q.at_;omega);have hw:=f104 G x.old x.new (by have:=q.old;omega);have hn:=f101 G;refine sJ c46 λR hR=>?_;unfold s46 r46;rw[rR,if_pos hm]at hR
 have e1:bB x=[]:=by
  unfold bB dv dr dq dk dh besR optF;simp[hk]
 rw[e1,if_neg (by omega),append_nil]at hR;(repeat' (first|(with_reducible (first|refine ae (λh=>?_) λh=>?_|refine af (λh=>?_) λh=>?_|refine ax (λh=>?_) λh=>?_)<;>(try simp only[DZ]at h))|(with_reducible first|refine AI (by omega) ?_|refine ab hM ?_|refine ab (f48 G _ _) ?_)|simp only[EV,seval,hk]|(with_reducible intro blk hblk;(try(have hnx:=hblk;simp only[EVK]at hnx;first|(have hne:=AI hnx hne)|(have hne:=hnx))))|(with_reducible first|refine ag ?_ ?_|refine ai ?_)|(refine⟨[],rfl,(by simp),rfl,?_⟩)|(refine aZ (by first|exact dD|exact aS) rfl (by first|rfl|simp) rfl rfl (by assumption) (by simp) (λgn=>?_))|(exfalso;omega)))
 all_goals(refine hR _ _ _ (by simp[optF,db,cK,bA,dJ,aT,aV, *];done) ?_;exact SubN.refl _)
end
section
variable (G:Glob)
set_option maxHeartbeats 4000000 in
set_option maxRecDepth 100000 in
def item_6_t (x:Itm) (hs:x.Shorts) (hm:x.may=true) (hk:x.kind=6) (hq:decide (2<=x.wh)=true):aj G Tryz.prog 46 [.agg x.cs] [] (Opn 88 6 (x.refs.map Fnd.cs)):=by
 obtain⟨q,hby⟩:=(o5 x).1 hs;have hM:=f30 G x hs;rw[hm]at hM;have hb:=f100 G x;rw[hq]at hb;have h1:=f99 G x.at_;have h2:=f99 G x.to_;have hl1:=f102 G x.at_ q.at_;have hl2:=f102 G x.to_ q.to_;have he:=f103 G x.at_ x.to_ (by have:=q.at_;omega);have hw:=f104 G x.old x.new (by have:=q.old;omega);have hn:=f101 G;refine sJ c46 λR hR=>?_;unfold s46 r46;rw[rR,if_pos hm]at hR
 have e1:bB x=optF (bD x.at_||bD x.to_) (fw 9 cK)++optF (decide (x.at_=x.to_)) (fw 11 aT):=by
  unfold bB dv dr dq dk dh besR optF;simp[hk,hq,of_decide_eq_true hq]
 rw[e1,if_neg (by omega),append_nil]at hR;generalize decide (x.at_=x.to_)=q4 at*;(repeat' (first|(with_reducible (first|refine ae (λh=>?_) λh=>?_|refine af (λh=>?_) λh=>?_)<;>(try simp only[DZ]at h))|(with_reducible first|refine ab hM ?_|refine ab hb ?_|refine ab h1 ?_|refine ab h2 ?_|refine ab he ?_|refine ab (f48 G _ _) ?_)|simp only[EV,seval,hk]|(with_reducible intro blk hblk;(try(have hnx:=hblk;simp only[EVK]at hnx;first|(have hne:=AI hnx hne)|(have hne:=hnx))))|(refine⟨[],rfl,(by simp),rfl,?_⟩)|(refine aZ (by first|exact dD|exact aS) rfl (by rfl) rfl rfl (by assumption) (by simp) (λgn=>?_))|fail))
 all_goals(refine hR _ _ _ (by simp[optF,db,cK,bA,dJ,aT,aV, *];done) ?_;exact SubN.refl _)
set_option maxHeartbeats 4000000 in
set_option maxRecDepth 100000 in
def item_6_f (x:Itm) (hs:x.Shorts) (hm:x.may=true) (hk:x.kind=6) (hq:decide (2<=x.wh)=false):aj G Tryz.prog 46 [.agg x.cs] [] (Opn 88 6 (x.refs.map Fnd.cs)):=by
 obtain⟨q,hby⟩:=(o5 x).1 hs;have hM:=f30 G x hs;rw[hm]at hM;have hb:=f100 G x;rw[hq]at hb;have h1:=f99 G x.at_;have h2:=f99 G x.to_;have hl1:=f102 G x.at_ q.at_;have hl2:=f102 G x.to_ q.to_;have he:=f103 G x.at_ x.to_ (by have:=q.at_;omega);have hw:=f104 G x.old x.new (by have:=q.old;omega);have hn:=f101 G;refine sJ c46 λR hR=>?_;unfold s46 r46;rw[rR,if_pos hm]at hR
 have e1:bB x=optF (bD x.at_) (fw 9 cK)++(optF (!nests (bQ x.to_).kind (bQ x.at_).kind) (fw 9 bA)++optF (decide (x.at_=x.to_)) (fw 9 dJ)):=by
  unfold bB dv dr dq dk dh besR optF;simp[hk,hq,of_decide_eq_false hq]
 rw[e1,if_neg (by omega),append_nil]at hR;generalize decide (x.at_=x.to_)=q4 at*;(repeat' (first|(with_reducible (first|refine ae (λh=>?_) λh=>?_|refine af (λh=>?_) λh=>?_)<;>(try simp only[DZ]at h))|(with_reducible first|refine ab hM ?_|refine ab hb ?_|refine ab h1 ?_|refine ab hl1 ?_|refine ab hl2 ?_|refine ab he ?_|refine ab (hn _ _) ?_|refine ab (f48 G _ _) ?_)|simp only[EV,seval,hk]|(with_reducible intro blk hblk;(try(have hnx:=hblk;simp only[EVK]at hnx;first|(have hne:=AI hnx hne)|(have hne:=hnx))))|(refine⟨[],rfl,(by simp),rfl,?_⟩)|(refine aZ (by first|exact dD|exact aS) rfl (by rfl) rfl rfl (by assumption) (by simp) (λgn=>?_))|fail))
 all_goals(refine hR _ _ _ (by simp[optF,db,cK,bA,dJ,aT,aV, *];done) ?_;exact SubN.refl _)
end
section
variable (G:Glob)
set_option maxHeartbeats 4000000 in
set_option maxRecDepth 100000 in
def item_0_t (x:Itm) (hs:x.Shorts) (hm:x.may=true) (hk:x.kind=0) (hq:decide (2<=x.wh)=true):aj G Tryz.prog 46 [.agg x.cs] [] (Opn 88 6 (x.refs.map Fnd.cs)):=by
 obtain⟨q,hby⟩:=(o5 x).1 hs;have hM:=f30 G x hs;rw[hm]at hM;have hb:=f100 G x;rw[hq]at hb;have h1:=f99 G x.at_;have h2:=f99 G x.to_;have hl1:=f102 G x.at_ q.at_;have hl2:=f102 G x.to_ q.to_;have he:=f103 G x.at_ x.to_ (by have:=q.at_;omega);have hw:=f104 G x.old x.new (by have:=q.old;omega);have hn:=f101 G;refine sJ c46 λR hR=>?_;unfold s46 r46;rw[rR,if_pos hm]at hR
 have e1:bB x=optF (bD x.at_) (fw 9 cK):=by
  unfold bB dv dr dq dk dh besR optF;simp[hk,hq,of_decide_eq_true hq]
 rw[e1,if_neg (by omega),append_nil]at hR;(repeat' (first|(with_reducible (refine af (λh=>?_) λh=>?_)<;>(try simp only[DZ]at h))|(with_reducible first|refine ab hM ?_|refine ab hb ?_|refine ab h1 ?_|refine ab (f48 G _ _) ?_)|simp only[EV,seval,hk]|(with_reducible intro blk hblk;(try(have hnx:=hblk;simp only[EVK]at hnx;first|(have hne:=AI hnx hne)|(have hne:=hnx))))|(refine⟨[],rfl,(by simp),rfl,?_⟩)|(refine aZ (by exact dD) rfl (by rfl) rfl rfl (by assumption) (by simp) (λgn=>?_))|fail))
 all_goals(refine hR _ _ _ (by simp[optF,db,cK,bA,dJ,aT,aV, *];done) ?_;exact SubN.refl _)
set_option maxHeartbeats 4000000 in
set_option maxRecDepth 100000 in
def item_0_f (x:Itm) (hs:x.Shorts) (hm:x.may=true) (hk:x.kind=0) (hq:decide (2<=x.wh)=false):aj G Tryz.prog 46 [.agg x.cs] [] (Opn 88 6 (x.refs.map Fnd.cs)):=by
 obtain⟨q,hby⟩:=(o5 x).1 hs;have hM:=f30 G x hs;rw[hm]at hM;have hb:=f100 G x;rw[hq]at hb;have h1:=f99 G x.at_;have h2:=f99 G x.to_;have hl1:=f102 G x.at_ q.at_;have hl2:=f102 G x.to_ q.to_;have he:=f103 G x.at_ x.to_ (by have:=q.at_;omega);have hw:=f104 G x.old x.new (by have:=q.old;omega);have hn:=f101 G;refine sJ c46 λR hR=>?_;unfold s46 r46;rw[rR,if_pos hm]at hR
 have e1:bB x=optF (!nests (bQ x.at_).kind x.unit.kind) (fw 9 bA):=by
  unfold bB dv dr dq dk dh besR optF;simp[hk,hq,of_decide_eq_false hq]
 rw[e1,if_neg (by omega),append_nil]at hR;(repeat' (first|(with_reducible (refine af (λh=>?_) λh=>?_)<;>(try simp only[DZ]at h))|(with_reducible first|refine ab hM ?_|refine ab hb ?_|refine ab hl1 ?_|refine ab (hn _ _) ?_|refine ab (f48 G _ _) ?_)|simp only[EV,seval,hk]|(with_reducible intro blk hblk;(try(have hnx:=hblk;simp only[EVK]at hnx;first|(have hne:=AI hnx hne)|(have hne:=hnx))))|(refine⟨[],rfl,(by simp),rfl,?_⟩)|(refine aZ (by exact dD) rfl (by rfl) rfl rfl (by assumption) (by simp) (λgn=>?_))|fail))
 all_goals(refine hR _ _ _ (by simp[optF,db,cK,bA,dJ,aT,aV, *];done) ?_;exact SubN.refl _)
set_option maxHeartbeats 4000000 in
set_option maxRecDepth 100000 in
def item_8 (x:Itm) (hs:x.Shorts) (hm:x.may=true) (hk:x.kind=8):aj G Tryz.prog 46 [.agg x.cs] [] (Opn 88 6 (x.refs.map Fnd.cs)):=by
 obtain⟨q,hby⟩:=(o5 x).1 hs;have hM:=f30 G x hs;rw[hm]at hM;have hb:=f100 G x;have h1:=f99 G x.at_;have h2:=f99 G x.to_;have hl1:=f102 G x.at_ q.at_;have hl2:=f102 G x.to_ q.to_;have he:=f103 G x.at_ x.to_ (by have:=q.at_;omega);have hw:=f104 G x.old x.new (by have:=q.old;omega);have hn:=f101 G;refine sJ c46 λR hR=>?_;unfold s46 r46;rw[rR,if_pos hm]at hR
 have e1:bB x=[]:=by
  unfold bB dv dr dq dk dh besR optF;simp[hk]
 rw[e1,if_neg (by omega),append_nil]at hR;(repeat' (first|(with_reducible refine ab hM ?_)|simp only[EV,seval,hk]|(with_reducible intro blk hblk;(try(have hnx:=hblk;simp only[EVK]at hnx;(have hne:=hnx))))|(refine⟨[],rfl,(by simp),rfl,?_⟩)|fail))
 all_goals(refine hR _ _ _ (by simp[optF,db,cK,bA,dJ,aT,aV, *];done) ?_;exact SubN.refl _)
set_option maxHeartbeats 4000000 in
set_option maxRecDepth 100000 in
def item_9 (x:Itm) (hs:x.Shorts) (hm:x.may=true) (hk:x.kind=9):aj G Tryz.prog 46 [.agg x.cs] [] (Opn 88 6 (x.refs.map Fnd.cs)):=by
 obtain⟨q,hby⟩:=(o5 x).1 hs;have hM:=f30 G x hs;rw[hm]at hM;have hb:=f100 G x;have h1:=f99 G x.at_;have h2:=f99 G x.to_;have hl1:=f102 G x.at_ q.at_;have hl2:=f102 G x.to_ q.to_;have he:=f103 G x.at_ x.to_ (by have:=q.at_;omega);have hw:=f104 G x.old x.new (by have:=q.old;omega);have hn:=f101 G;refine sJ c46 λR hR=>?_;unfold s46 r46;rw[rR,if_pos hm]at hR
 have e1:bB x=[]:=by
  unfold bB dv dr dq dk dh besR optF;simp[hk]
 rw[e1,if_neg (by omega),append_nil]at hR;(repeat' (first|(with_reducible refine ab hM ?_)|simp only[EV,seval,hk]|(with_reducible intro blk hblk;(try(have hnx:=hblk;simp only[EVK]at hnx;(have hne:=hnx))))|(refine⟨[],rfl,(by simp),rfl,?_⟩)|fail))
 all_goals(refine hR _ _ _ (by simp[optF,db,cK,bA,dJ,aT,aV, *];done) ?_;exact SubN.refl _)
set_option maxHeartbeats 4000000 in
set_option maxRecDepth 100000 in
def item_10 (x:Itm) (hs:x.Shorts) (hm:x.may=true) (hk:x.kind=10):aj G Tryz.prog 46 [.agg x.cs] [] (Opn 88 6 (x.refs.map Fnd.cs)):=by
 obtain⟨q,hby⟩:=(o5 x).1 hs;have hM:=f30 G x hs;rw[hm]at hM;have hb:=f100 G x;have h1:=f99 G x.at_;have h2:=f99 G x.to_;have hl1:=f102 G x.at_ q.at_;have hl2:=f102 G x.to_ q.to_;have he:=f103 G x.at_ x.to_ (by have:=q.at_;omega);have hw:=f104 G x.old x.new (by have:=q.old;omega);have hn:=f101 G;refine sJ c46 λR hR=>?_;unfold s46 r46;rw[rR,if_pos hm]at hR
 have e1:bB x=[]:=by
  unfold bB dv dr dq dk dh besR optF;simp[hk]
 rw[e1,if_neg (by omega),append_nil]at hR;(repeat' (first|(with_reducible refine ab hM ?_)|simp only[EV,seval,hk]|(with_reducible intro blk hblk;(try(have hnx:=hblk;simp only[EVK]at hnx;(have hne:=hnx))))|(refine⟨[],rfl,(by simp),rfl,?_⟩)|fail))
 all_goals(refine hR _ _ _ (by simp[optF,db,cK,bA,dJ,aT,aV, *];done) ?_;exact SubN.refl _)
end
def rp {p:List Stp} (h:bD p=false):(bQ p).label=(p.getLastD ⟨0,[]⟩).label:=by unfold bQ;rw[h];rfl
section
variable (G:Glob)
set_option maxHeartbeats 4000000 in
set_option maxRecDepth 100000 in
def item_5 (x:Itm) (hs:x.Shorts) (hm:x.may=true) (hk:x.kind=5):aj G Tryz.prog 46 [.agg x.cs] [] (Opn 88 6 (x.refs.map Fnd.cs)):=by
 obtain⟨q,hby⟩:=(o5 x).1 hs;have hM:=f30 G x hs;rw[hm]at hM;have h1:=f99 G x.at_;have hal:=q.at_;refine sJ c46 λR hR=>?_;unfold s46 r46;rw[rR,if_pos hm]at hR
 have e1:bB x=optF (bD x.at_) (fw 9 cK)++optF (!bD x.at_&&decide ((bQ x.at_).label=x.label)) (fw 10 aV):=by
  unfold bB dv dr dq dk dh besR optF;simp[hk]
 rw[e1,if_neg (by omega),append_nil]at hR
 cases hb:bD x.at_ with
 |true=>
  rw[hb]at h1 hR;(repeat' (first|(with_reducible first|refine ab hM ?_|refine ab h1 ?_|refine ab (f48 G _ _) ?_)|simp only[EV,seval,hk]|(with_reducible intro blk hblk;(try(have hnx:=hblk;simp only[EVK]at hnx;first|(have hne:=AI hnx hne)|(have hne:=hnx))))|(refine⟨[],rfl,(by simp),rfl,?_⟩)|(refine aZ (by exact dD) rfl (by rfl) rfl rfl (by assumption) (by simp) (λgn=>?_))|fail))
  all_goals(refine hR _ _ _ (by simp[optF,db,cK,bA,dJ,aT,aV, *];done) ?_;exact SubN.refl _)
 |false=>
  have hne:=gU hb;have hl:0<x.at_.length:=length_pos_iff.2 hne
  have hw:IntKind.i64.wrap ((x.at_.length:Int)-1)=((x.at_.length-1:Nat):Int):=by rw[av (by omega) (by omega)];omega
  have hlr:=lF x.at_ hne;rw[rp hb]at hR;rw[hb]at h1 hR;generalize (x.at_.getLastD ⟨0,[]⟩).label=L at*;(repeat' (first|(with_reducible (refine ae (λh=>?_) λh=>?_)<;>(try simp only[DZ]at h))|(with_reducible first|refine AI (by omega) ?_|refine ab hM ?_|refine ab h1 ?_|refine ab (f48 G _ _) ?_)|simp only[EV,seval,hk,hw,hlr]|(with_reducible intro blk hblk;(try(have hnx:=hblk;simp only[EVK]at hnx;(have hne:=AI hnx hne))))|(refine⟨[],rfl,(by simp),rfl,?_⟩)|(refine aZ (by exact dD) rfl (by rfl) rfl rfl (by assumption) (by simp) (λgn=>?_))|fail))
  all_goals(refine hR _ _ _ (by simp[optF,db,cK,bA,dJ,aT,aV, *];done) ?_;exact SubN.refl _)
set_option maxHeartbeats 4000000 in
set_option maxRecDepth 100000 in
def item_11 (x:Itm) (hs:x.Shorts) (hm:x.may=true) (hk:x.kind=11) (ih:∀y∈x.by_,Pure G Tryz.prog 46 [.agg y.cs] (.lst 6 (y.refs.map Fnd.cs))):aj G Tryz.prog 46 [.agg x.cs] [] (Opn 88 6 (x.refs.map Fnd.cs)):=by
 have hM:=f30 G x hs;rw[hm]at hM;obtain⟨y,hy,_⟩:=og hm hk;have hi:=ih y (by rw[hy];simp);have hlen:=refs_len y;refine sJ c46 λR hR=>?_;unfold s46 r46;rw[rR,if_pos hm]at hR
 have e1:bB x=[]:=by
  unfold bB dv dr dq dk dh besR optF;simp[hk]
 rw[e1,if_pos hk,nil_append,hy,ta]at hR;(repeat' (first|(with_reducible first|refine ab hM ?_|refine ab hi ?_)|simp only[EV,seval,hk,hy,map_cons,map_nil,length_cons,length_nil,getD_cons_zero]|(with_reducible intro blk hblk;(try(have hnx:=hblk;simp only[EVK]at hnx;(have hne:=hnx))))|(refine⟨[],rfl,(by simp),rfl,?_⟩)|(refine cx (by exact dD) (by rfl) rfl (by simp only[length_map,length_nil];omega) (λgn=>?_))|fail));exact hR _ _ _ rfl (by((simp only[length_append,length_map,length_nil,Nat.zero_add];exact SubN.refl _)))
end
section
variable (G:Glob)
def f46o:∀x:Itm,x.Shorts->aj G Tryz.prog 46 [.agg x.cs] [] (Opn 88 6 (x.refs.map Fnd.cs)):=by
 refine Itm.ind λx ih E=>?_;by_cases D:x.may=true
 ·obtain⟨h0,Y,_,_⟩:=gt D
  have Z:x.kind=0\/x.kind=1\/x.kind=2\/x.kind=3\/x.kind=4\/x.kind=5\/x.kind=6\/x.kind=7\/x.kind=8\/x.kind=9\/x.kind=10\/x.kind=11:=by omega
  rcases Z with h|h|h|h|h|h|h|h|h|h|h|h
  ·cases M:decide (2<=x.wh)with
   |true=>exact item_0_t G x E D h M
   |false=>exact item_0_f G x E D h M
  ·exact item_1 G x E D h
  ·exact item_2 G x E D h
  ·exact item_3 G x E D h
  ·exact item_4 G x E D h
  ·exact item_5 G x E D h
  ·cases M:decide (2<=x.wh)with
   |true=>exact item_6_t G x E D h M
   |false=>exact item_6_f G x E D h M
  ·exact item_7 G x E D h
  ·exact item_8 G x E D h
  ·exact item_9 G x E D h
  ·exact item_10 G x E D h
  ·exact item_11 G x E D h λy V=>(ih y V (((o5 x).1 E).2 y V)).lst
 ·have O:=f30 G x E
  have N:x.may=false:=by simpa using D
  rw[N]at O;refine sJ c46 λR T=>?_;unfold s46 r46;rw[rR,if_neg D]at T;(repeat' (first|(with_reducible (first|refine ae (λh=>?_) λh=>?_|refine af (λh=>?_) λh=>?_|refine ax (λh=>?_) λh=>?_)<;>(try simp only[DZ]at h))|(with_reducible first|refine AI (by omega) ?_|refine ab O ?_|refine ab (f48 G _ _) ?_)|simp only[EV,seval]|(with_reducible intro X I;(try(have F:=I;simp only[EVK]at F;first|(have J:=AI F J)|(have J:=F))))|(with_reducible first|refine ag ?_ ?_|refine ai ?_)|(refine⟨[(fw 1 fY).cs],rfl,(by simp[db]),rfl,?_⟩)|(exfalso;omega)));exact T _ _ _ rfl (SubN.refl _)
def lD:List AV:=[.i 0,.str [],.i 0,.i 0,.i 0,.str [],.nil]
def rt:Pure G Tryz.prog 91 [.agg lD] (.bool false):=by
 refine Pure.w c91 λR E=>?_;unfold s91 r91 lD;(repeat' (first|(with_reducible (first|refine ae (λh=>?_) λh=>?_|refine af (λh=>?_) λh=>?_|refine ax (λh=>?_) λh=>?_)<;>(try simp only[DZ]at h))|(with_reducible refine AI (by omega) ?_)|simp only[EV,seval]|(with_reducible intro J F;(try(have D:=F;simp only[EVK]at D;first|(have I:=AI D I)|(have I:=D))))|(with_reducible first|refine ag ?_ ?_|refine ai ?_)|(exfalso;omega)));(all_goals(first|(exact RET.eq E rfl)|rfl|(refine RET.eq E ?_;(refine congrArg AV.bool (Bool.eq_iff_iff.2 ?_);simp only[EVB]at*;omega))|(refine RET.eq E ?_;first|(simp only[hok,h,EVC,decide_true,decide_false];done)|(simp only[hok,EVC,decide_true,decide_false];done)|(simp only[hok,EVC,decide_true,decide_false];refine congrArg AV.bool (decide_eq_decide.2 ?_);omega)|(simp_all[];done)|(simp_all[];omega)|grind|(norm_cast at*;simp_all[];done)|(norm_cast at*;simp_all[];omega))|(refine E _ _ (Or.inl (Or.inr ⟨rfl,?_⟩));simp[];done)|(refine E _ _ (Or.inr ?_);simp[*,aW,aH,eH,hH,];done)|(rw[hok];simp only[h,EVC,decide_true,decide_false];done)|(rw[hok];simp only[EVC,decide_true,decide_false];done)|(simp_all[];done)|(simp_all[];omega)|grind|(norm_cast at*;simp_all[];done)|(norm_cast at*;simp_all[];omega)))
def actFnd:Fnd:=⟨-1,⟨0,0,0⟩,1,[97,99,116]⟩
def qS:Pure G Tryz.prog 40 [.agg lD] (.lst 6 [actFnd.cs]):=by
 have M:=rt G;refine Pure.w c40 λR J=>?_;unfold s40 r40;unfold lD at*;(repeat' (first|(with_reducible (first|refine ae (λh=>?_) λh=>?_|refine af (λh=>?_) λh=>?_|refine ax (λh=>?_) λh=>?_)<;>(try simp only[DZ]at h))|(with_reducible first|refine AI (by omega) ?_|refine ab M ?_)|simp only[EV,seval]|(with_reducible intro I E;(try(have D:=E;simp only[EVK]at D;first|(have F:=AI D F)|(have F:=D))))|(with_reducible first|refine ag ?_ ?_|refine ai ?_)|(refine⟨[actFnd.cs],rfl,(by simp[actFnd,Fnd.cs]),rfl,?_⟩)|(exfalso;omega)));exact J _ _ (Or.inl (Or.inr ⟨rfl,rfl⟩))
end
end Go.Av
