/-
  LINT, 23: items compared by the program.
-/
import Derived.Test.YtepngejmjdgccaaGreatDoorXS0toXL25
import Derived.Test.YtepngejmjdgccaaGreatDoorXP1
import Derived.Test.YtepngejmjdgccaaGreatDoorXST4
namespace Go.Av
open Go Go.RowKit Go.Proofs
set_option linter.unusedSimpArgs false
set_option linter.unusedVariables false
section
variable (G:Glob)
theorem f21 (f:Value) (a b:List Itm) (ha:a.length<9000000000000000000) (hf:∀x∈a,∀y,VPure G Tryz.prog f [.agg x.cs,.agg y.cs] (.bool (decide (x=y)))):
  Pure G Tryz.prog 21 [.lst 25 (a.map Itm.cs),.lst 25 (b.map Itm.cs),.sc f] (.bool (decide (a=b))):=by
 refine Pure.w c21 λR hR=>?_
 unfold s21 r21
 by_cases hl:a.length=b.length
 ·have e0:decide ((a.length:Int)≠(b.length:Int))=false:=by simp[hl]
  (repeat' (first|(with_reducible (refine split_case (λh=>?_) (λh=>?_))<;>(try simp only[Da,Db,Dc,Dw,De,Df,Dg,Dh]at h))|(with_reducible refine And.intro (by omega) ?_)|simp only[EVz,seval,↓reduceIte,EV6,EV7,e0,hx.yes,hx.le0,hx.lt',hx.get,hx.row,hw,hy.row,hy.lt',hne]|simp only[EVz,seval,↓reduceIte,EV6,EV7,e0,hx.yes,hx.le0,hx.lt',hx.get,hx.row,hw,hy.row,hy.lt']|simp only[EVz,seval,↓reduceIte,EV6,EV7,e0,hn]|simp only[EVz,seval,↓reduceIte,EV6,EV7,e0]|(with_reducible intro blk hblk;(try(have hnx:=hblk;simp only[EVK]at hnx;first|(have hne:=And.intro hnx hne)|(have hne:=hnx))))|(refine LK_next hx () ?_ (Weak.sub (SubN.nil _)))|(refine CALL_vpure (hf _ hx.mem y) ?_)|(refine W_list (a) (λi r (c:Unit)=>a.length=b.length/\decide (a=b)=decide (r=b.drop i)) (λi c=>[(1,.lst 25 (b.map Itm.cs)),(2,.sc f),(15,.lst 25 (a.map Itm.cs)),(16,.int .i64 a.length),(17,.int .i64 i)]) (λ_ _=>[]) () (by((simp[*];done))) (Weak.rfl' _ _) (by omega) (λi x r c hok hx hw=>?_) (λc hok hn=>?_)<;>(try(obtain⟨y,r2,hy,hyn,hok⟩:=pair_more hok hx)))))
  (all_goals(first|(refine RET.eq hR ?_;((simp_all[hl];done)))|(simp_all[hl];done)))
 ·have e0:decide ((a.length:Int)≠(b.length:Int))=true:=by simp;omega
  rw[dec_len hl]at hR
  (repeat' (simp only[EVz,seval,↓reduceIte,EV6,EV7,e0]))
  (all_goals((exact RET.eq hR rfl)))
set_option maxHeartbeats 4000000 in
theorem f11:∀(a:Itm),a.fit->∀b:Itm,Pure G Tryz.prog 11 [.agg a.cs,.agg b.cs] (.bool (decide (a=b))):=by
 refine Itm.ind λa ih hfit b=>?_
 obtain⟨h1,h2,h3,h4,h5,h6,h7⟩:=(Itm.fit_eq a).1 hfit
 refine Pure.w c11 λR hR=>?_
 unfold s11 r11
 (repeat' (first|(with_reducible (refine gd_case (λh=>?_) (λh=>?_))<;>(try simp only[Da,Db,Dc,Dw,De,Df,Dg,Dh]at h))|(with_reducible refine CALL_pure (f18 G _ _ (by omega)) ?_)|(with_reducible refine CALL_pure (f19 G _ _ (by omega)) ?_)|(with_reducible refine CALL_pure (f20 G a.unit h3 b.unit) ?_)|(with_reducible refine CALL_pure (f21 G _ _ _ (by omega) (λx hx y=>(ih x hx (h7 x hx) y).v)) ?_)|simp only[EVz,seval,↓reduceIte,EV6,EV7,U.cs_fold]))
 all_goals first
  |(refine RET.eq hR (congrArg AV.bool (Eq.symm (decide_eq_false ?_)));rintro rfl;first|exact absurd rfl h|exact absurd rfl ‹¬_=_› |exact sta_ne (by assumption) rfl)
  |(refine RET.eq hR (congrArg AV.bool (decide_eq_decide.2 ⟨λe=>?_,λe=>by rw[e]⟩))
    exact Itm.ext' (by assumption) (by assumption) (by assumption) (by assumption) (by assumption) (by assumption) (by assumption) (by assumption) (by assumption) (by assumption) (sta_eq (by assumption)) (by assumption) (by assumption) (by assumption) (by assumption) e)
  |trace_state
end
theorem shortW_ok {l:List Wd} (h:shortW l=true):l.length<1000000/\∀w∈l,w.text.length<1000000:=by
 unfold shortW at h
 simp only[Bool.and_eq_true,List.all_eq_true,decide_eq_true_eq]at h
 exact⟨by omega,λw hw=>by have:=h.1 w hw;omega⟩
theorem shortss_all:∀{us:List U},U.shortss us=true->∀k∈us,k.shorts=true
 |[],_,k,hk=>by cases hk
 |u::us,h,k,hk=>by
  rw[U.shortss,Bool.and_eq_true]at h
  rcases List.mem_cons.1 hk with rfl|hk
  ·exact h.1
  ·exact shortss_all h.2 k hk
theorem shorts_flat:∀u:U,u.shorts=true->∀x∈u.flat,x.label.length<1000000/\x.head.length<1000000/\x.words.length<1000000/\(∀w∈x.head,w.text.length<1000000)/\(∀w∈x.words,w.text.length<1000000):=by
 refine U.ind λu ih h x hx=>?_
 rw[U.shorts_eq]at h
 simp only[Bool.and_eq_true,decide_eq_true_eq]at h
 obtain⟨h1,h2,h3,h4⟩:=h
 rw[U.flat_eq]at hx
 rcases List.mem_cons.1 hx with rfl|hx
 ·have a:=shortW_ok h2
  have b:=shortW_ok h3
  exact⟨by omega,a.1,b.1,a.2,b.2⟩
 ·obtain⟨k,hk,hx⟩:=flats_in hx
  exact ih k hk (shortss_all h4 k hk) x hx
theorem unit_short {u:U} (hf:u.fit) {m:Int} (hm:0<=m) (hm2:m<=100000) (h:u.few m=true):u.Short:=by
 unfold U.few at h
 simp only[Bool.and_eq_true,decide_eq_true_eq]at h
 obtain⟨h1,h2⟩:=h
 have h3:=(U.size_ok u 0 m hm).2.2 h1
 exact⟨⟨hf,by omega⟩,λx hx=>by
  obtain⟨a1,a2,a3,a4,a5⟩:=shorts_flat u h2 x hx
  exact⟨by omega,a2,a3,λw hw=>by have:=a4 w hw;omega,λw hw=>by have:=a5 w hw;omega⟩⟩
theorem steps_ok {l:List Stp} (h:steps100 l=true):∀s∈l,s.label.length<=100:=by
 unfold steps100 at h
 simp only[List.all_eq_true,decide_eq_true_eq]at h
 intro s hs
 have:=h s hs
 omega
theorem fews_all:∀{l:List Itm},Itm.fews l=true->∀y∈l,y.few=true
 |[],_,y,hy=>by cases hy
 |x::l,h,y,hy=>by
  rw[Itm.fews_cons,Bool.and_eq_true,Bool.and_eq_true]at h
  rcases List.mem_cons.1 hy with rfl|hy
  ·exact h.1.2
  ·exact fews_all h.2 y hy
theorem few_shorts:∀x:Itm,x.fit->x.few=true->x.Shorts:=by
 refine Itm.ind λx ih hf h=>?_
 rw[Itm.few_eq]at h
 unfold Itm.few0 at h
 simp only[Bool.and_eq_true,decide_eq_true_eq]at h
 obtain⟨⟨a1,a2,a3,a4,a5,a6,a7,a8,a9,a10⟩,b1,b2,b3,b4,b5⟩:=h
 obtain⟨h1,h2,h3,h4,h5,h6,h7⟩:=(Itm.fit_eq x).1 hf
 refine(Itm.Shorts_eq x).2 ⟨⟨hf,unit_short h3 (by omega) (by omega) a10,by omega,by omega,λs hs=>by have:=steps_ok b3 s hs;omega,λs hs=>by have:=steps_ok b4 s hs;omega,by omega,by omega,by omega,by omega,by omega,by omega⟩,λy hy=>ih y hy (h7 y hy) (fews_all b5 y hy)⟩
section
variable (G:Glob)
theorem tx_dec {a b:Itm} (ha:a.may=true) (hb:b.may=true):decide (a.tx=b.tx)=decide (a=b):=by
 by_cases h:a=b
 ·subst h;simp
 ·have:¬a.tx=b.tx:=λe=>h (itm_inj a b ha hb e)
  simp[h,this]
set_option maxHeartbeats 4000000 in
theorem law_SyntaxEqual (hA:Pure G Tryz.prog 5 [] (.bool true)) (a:Itm) (ha:a.fit) (b:Itm) (hb:b.fit):Pure G Tryz.prog 4 [.agg a.cs,.agg b.cs] (.bool true):=by
 have hFa:=f10 G a ha
 have hFb:=f10 G b hb
 refine Pure.w c4 λR hR=>?_
 unfold s4 r4
 by_cases fa:a.few=true
 ·by_cases fb:b.few=true
  ·have sa:=few_shorts a ha fa
   have sb:=few_shorts b hb fb
   have hab:=f11 G a ha b
   have haa:=f11 G a ha a
   have hba:=f11 G b hb a
   have hS:=f12 G a ha b
   have hMa:=f13 G a sa
   have hMb:=f13 G b sb
   rw[decide_eq_true rfl]at haa
   have hc:decide (b=a)=decide (a=b):=decide_eq_decide.2 ⟨λh=>h.symm,λh=>h.symm⟩
   rw[hc]at hba
   generalize hd:decide (a=b)=d at*
   have hbn:(d != d)=false:=by cases d<;>rfl
   have hbe:(d==d)=true:=by cases d<;>rfl
   by_cases ma:a.may=true
   ·by_cases mb:b.may=true
    ·have hTa:=f14 G a sa ma
     have hTb:=f14 G b sb mb
     have ht:=tx_dec ma mb
     rw[hd]at ht
     rw[ma]at hMa
     rw[mb]at hMb
     rw[fa]at hFa
     rw[fb]at hFb
     (repeat' (first|(with_reducible (first|refine split_case (λh=>?_) (λh=>?_)|refine gd_case (λh=>?_) (λh=>?_)|refine pick_case (λh=>?_) (λh=>?_))<;>(try simp only[Da,Db,Dc,Dw,De,Df,Dg,Dh]at h))|(with_reducible refine And.intro (by omega) ?_)|(with_reducible refine CALL_pure (hA) ?_)|(with_reducible refine CALL_pure (hFa) ?_)|(with_reducible refine CALL_pure (hFb) ?_)|(with_reducible refine CALL_pure (hab) ?_)|(with_reducible refine CALL_pure (haa) ?_)|(with_reducible refine CALL_pure (hba) ?_)|(with_reducible refine CALL_pure (hS) ?_)|(with_reducible refine CALL_pure (hMa) ?_)|(with_reducible refine CALL_pure (hMb) ?_)|(with_reducible refine CALL_pure (hTa) ?_)|(with_reducible refine CALL_pure (hTb) ?_)|simp only[EVz,seval,↓reduceIte,EV6,EV7,ht,hbn,hbe]|(with_reducible intro blk hblk;(try(have hnx:=hblk;simp only[EVK]at hnx;first|(have hne:=And.intro hnx hne)|(have hne:=hnx))))|(with_reducible refine both_case ?_ ?_)|(with_reducible refine same_case ?_)|(exfalso;omega)))
     all_goals exact RET.eq hR rfl
    ·rw[Bool.not_eq_true]at mb
     rw[ma]at hMa
     rw[mb]at hMb
     rw[fa]at hFa
     rw[fb]at hFb
     (repeat' (first|(with_reducible (first|refine split_case (λh=>?_) (λh=>?_)|refine gd_case (λh=>?_) (λh=>?_)|refine pick_case (λh=>?_) (λh=>?_))<;>(try simp only[Da,Db,Dc,Dw,De,Df,Dg,Dh]at h))|(with_reducible refine And.intro (by omega) ?_)|(with_reducible refine CALL_pure (hA) ?_)|(with_reducible refine CALL_pure (hFa) ?_)|(with_reducible refine CALL_pure (hFb) ?_)|(with_reducible refine CALL_pure (hab) ?_)|(with_reducible refine CALL_pure (haa) ?_)|(with_reducible refine CALL_pure (hba) ?_)|(with_reducible refine CALL_pure (hS) ?_)|(with_reducible refine CALL_pure (hMa) ?_)|(with_reducible refine CALL_pure (hMb) ?_)|simp only[EVz,seval,↓reduceIte,EV6,EV7,hbn,hbe]|(with_reducible intro blk hblk;(try(have hnx:=hblk;simp only[EVK]at hnx;first|(have hne:=And.intro hnx hne)|(have hne:=hnx))))|(with_reducible refine both_case ?_ ?_)|(with_reducible refine same_case ?_)|(exfalso;omega)))
     all_goals exact RET.eq hR rfl
   ·rw[Bool.not_eq_true]at ma
    rw[ma]at hMa
    rw[fa]at hFa
    rw[fb]at hFb
    (repeat' (first|(with_reducible (first|refine split_case (λh=>?_) (λh=>?_)|refine gd_case (λh=>?_) (λh=>?_)|refine pick_case (λh=>?_) (λh=>?_))<;>(try simp only[Da,Db,Dc,Dw,De,Df,Dg,Dh]at h))|(with_reducible refine And.intro (by omega) ?_)|(with_reducible refine CALL_pure (hA) ?_)|(with_reducible refine CALL_pure (hFa) ?_)|(with_reducible refine CALL_pure (hFb) ?_)|(with_reducible refine CALL_pure (hab) ?_)|(with_reducible refine CALL_pure (haa) ?_)|(with_reducible refine CALL_pure (hba) ?_)|(with_reducible refine CALL_pure (hS) ?_)|(with_reducible refine CALL_pure (hMa) ?_)|simp only[EVz,seval,↓reduceIte,EV6,EV7,hbn,hbe]|(with_reducible intro blk hblk;(try(have hnx:=hblk;simp only[EVK]at hnx;first|(have hne:=And.intro hnx hne)|(have hne:=hnx))))|(with_reducible refine both_case ?_ ?_)|(with_reducible refine same_case ?_)|(exfalso;omega)))
    all_goals exact RET.eq hR rfl
  ·rw[Bool.not_eq_true]at fb
   rw[fa]at hFa
   rw[fb]at hFb
   (repeat' (first|(with_reducible (first|refine split_case (λh=>?_) (λh=>?_)|refine gd_case (λh=>?_) (λh=>?_)|refine pick_case (λh=>?_) (λh=>?_))<;>(try simp only[Da,Db,Dc,Dw,De,Df,Dg,Dh]at h))|(with_reducible refine And.intro (by omega) ?_)|(with_reducible refine CALL_pure (hA) ?_)|(with_reducible refine CALL_pure (hFa) ?_)|(with_reducible refine CALL_pure (hFb) ?_)|simp only[EVz,seval,↓reduceIte,EV6,EV7]|(with_reducible intro blk hblk;(try(have hnx:=hblk;simp only[EVK]at hnx;first|(have hne:=And.intro hnx hne)|(have hne:=hnx))))|(with_reducible refine both_case ?_ ?_)|(with_reducible refine same_case ?_)|(exfalso;omega)))
   all_goals exact RET.eq hR rfl
 ·rw[Bool.not_eq_true]at fa
  rw[fa]at hFa
  (repeat' (first|(with_reducible (first|refine split_case (λh=>?_) (λh=>?_)|refine gd_case (λh=>?_) (λh=>?_)|refine pick_case (λh=>?_) (λh=>?_))<;>(try simp only[Da,Db,Dc,Dw,De,Df,Dg,Dh]at h))|(with_reducible refine And.intro (by omega) ?_)|(with_reducible refine CALL_pure (hA) ?_)|(with_reducible refine CALL_pure (hFa) ?_)|simp only[EVz,seval,↓reduceIte,EV6,EV7]|(with_reducible intro blk hblk;(try(have hnx:=hblk;simp only[EVK]at hnx;first|(have hne:=And.intro hnx hne)|(have hne:=hnx))))|(with_reducible refine both_case ?_ ?_)|(with_reducible refine same_case ?_)|(exfalso;omega)))
  all_goals exact RET.eq hR rfl
end
end Go.Av
