/-
  LINT ON BOOKS, 1: whether items are fresh.
-/
import Derived.Test.YtnoakpkjccigoaaGreatDoorXM14toXAv36
import Derived.Test.YtnoakpkjccigoaaGreatDoorXM32toXL44
import Derived.Test.YtnoakpkjccigoaaGreatDoorXP8toXAv31
import Derived.Test.YtnoakpkjccigoaaGreatDoorXC4
import Derived.Test.YtnoakpkjccigoaaGreatDoorXC5
import Derived.Test.YtnoakpkjccigoaaGreatDoorXC6
import Derived.Test.YtnoakpkjccigoaaGreatDoorXL34toXM3
import Derived.Test.YtnoakpkjccigoaaGreatDoorXM4toXE16
import Derived.Test.YtnoakpkjccigoaaGreatDoorXU7toXN0
namespace Go.Av
open Go Go.RowKit Go.Proofs List
set_option linter.unusedSimpArgs false
set_option linter.unusedVariables false
def jj (d e:Dd):Prop:=e.act=d.act/\e.item=d.item
def fw (d:Dd) (x:Idd):Prop:=d.act<1\/d.item<0\/(x.act=d.act/\x.item=d.item)
instance (d e:Dd):Decidable (jj d e):=inferInstanceAs (Decidable (_/\_))
instance (d:Dd) (x:Idd):Decidable (fw d x):=inferInstanceAs (Decidable (_\/_))
def ek (ids:List Idd):List Dd->List Dd->Bool
 |_,[]=>true
 |p,d::r=>if (∃e∈p,jj d e)\/(∃x∈ids,fw d x)then false else ek ids (p++[d]) r
theorem ij (d:Dd):d.cs.length=28:=by unfold Dd.cs;simp[Itm.cs_len]
theorem gu (d:Dd):(d.cs.drop 1).length=27:=by rw[length_drop,ij]
theorem jh (d:Dd):d.cs.headD .any= .int .i64 d.act:=rfl
theorem gh (d:Dd):(d.cs.drop 1).headD .any= .int .i64 d.item:=rfl
theorem kI {l:List Dd} {i k:Nat} {x y:Dd} (hy:RestT l i k y) (h:∀e∈l.take k,¬jj x e) (hn:¬jj x y):∀e∈l.take (k+1),¬jj x e:=by
 intro e he
 rw[hy.take,mem_append,mem_singleton]at he
 rcases he with he|rfl
 ·exact h e he
 ·exact hn
section
variable (G:Glob)
theorem f35 (u:U) (ht:u.Tame) (l:List Dd) (hl:l.length<1000000):Pure G Tryz.prog 35 [.agg u.cs,.lst 28 (l.map Dd.cs)] (.bool (ek u.ids [] l)):=by
 have hA:=f56 G u ht
 have hil:u.ids.length<1000000000000000000:=by unfold U.ids;rw[length_map];have:=ht.2;omega
 refine Pure.w c35 λR hR=>?_
 unfold s35 r35
 (repeat' (first|(with_reducible (first|refine ab (λh=>?_) (λh=>?_)|refine ai (λh=>?_) (λh=>?_))<;>(try simp only[Da,Db,Dc,Dw,De,Df,Dg,Dh]at h))|(with_reducible refine aa hA ?_)|simp only[EVz,seval,↓reduceIte,EV6,EV7,ij,gu,jh,gh,hy.yes,hy.le0,hy.lt',hy.row,hwk,hx.le0,hx.lt',hx.row]|simp only[EVz,seval,↓reduceIte,EV6,EV7,ij,gu,jh,gh,hnk,hx.le0,hx.lt',hx.row,hw]|simp only[EVz,seval,↓reduceIte,EV6,EV7,ij,gu,jh,gh,hx.yes,hx.le0,hx.lt',hx.get,hx.row,hw]|simp only[EVz,seval,↓reduceIte,EV6,EV7,ij,gu,jh,gh,hn]|simp only[EVz,seval,↓reduceIte,EV6,EV7,ij,gu,jh,gh]|(with_reducible intro blk hblk;(try(have hnx:=hblk;simp only[EVK]at hnx;(have hne:=hnx))))|(refine ay (l) (λi r (c:Unit)=>ek u.ids [] l=ek u.ids (l.take i) r) (λi c=>[(1,.lst 28 (l.map Dd.cs)),(5,.lst 3 (u.ids.map Idd.cs)),(6,.int .i64 i)]) (λ_ _=>[]) () (by rfl) (Weak.rfl' _ _) (by omega) (λi x r c hok hx hw=>?_) (λc hok hn=>?_))|(refine W_take (l) (i) (Nat.le_of_lt hx.lt) (λk (c:Unit)=>∀e∈l.take k,¬jj x e) (λk c=>[(1,.lst 28 (l.map Dd.cs)),(5,.lst 3 (u.ids.map Idd.cs)),(6,.int .i64 i),(7,.int .i64 k)]) (λ_ _=>[]) () (by simp) (Weak.rfl' _ _) (by have:=hx.lt;omega) (λk y c hok2 hy hwk=>?_) (λc hok2 hnk=>?_))|(refine LT_next hy () ?_ (Weak.rfl' _ _))|fail))
 ·refine RET.eq hR (congrArg AV.bool ?_)
  rw[hok,ek,if_pos (.inl ⟨y,hy.mem,‹_›,h⟩)]
 ·exact kI hy hok2 (λhc=>h hc.2) blk hblk
 ·exact kI hy hok2 (λhc=>h hc.1) blk hblk
 ·have bad:∀{z:Idd},fw x z->z∈u.ids->RET (.bool false) [] R:=λ{z} hc hm=>RET.eq hR (congrArg AV.bool (by rw[hok,ek,if_pos (.inr ⟨z,hm,hc⟩)]))
  have more:∀{j:Nat} {z:Idd} {r2:List Idd},Rest u.ids j z r2->(∀y∈u.ids.take j,¬fw x y)->¬fw x z->∀y∈u.ids.take (j+1),¬fw x y:=λ{j z r2} hz h hn y hy=>by
   rw[hz.take,mem_append,mem_singleton]at hy
   rcases hy with hy|rfl
   ·exact h y hy
   ·exact hn
  refine ay u.ids (λj r2 (c:Unit)=>∀z∈u.ids.take j,¬fw x z) (λj c=>[(1,.lst 28 (l.map Dd.cs)),(5,.lst 3 (u.ids.map Idd.cs)),(6,.int .i64 i),(8,.int .i64 j)]) (λ_ _=>[]) () (by simp) (Weak.rfl' _ _) (by omega) (λj z r2 c hok3 hz hwz=>?_) (λc hok3 hnz=>?_)
  ·(repeat' (first|(with_reducible (first|refine ab (λh=>?_) (λh=>?_)|refine ai (λh=>?_) (λh=>?_))<;>(try simp only[Da,Db,Dc,Dw,De,Df,Dg,Dh]at h))|simp only[EVz,seval,↓reduceIte,EV6,EV7,hz.yes,hz.le0,hz.lt',hz.get,hz.row,hwz,hx.le0,hx.lt',hx.row,hw,ij,gu,jh,gh,Idd.cs]|fail))
   ·exact bad (.inr (.inr ⟨‹_›,h⟩)) hz.mem
   ·exact ap hz () (more hz hok3 λhc=>by rcases hc with hc|hc|⟨_,hc⟩<;>omega) (Weak.rfl' _ _)
   ·exact ap hz () (more hz hok3 λhc=>by rcases hc with hc|hc|⟨hc,_⟩<;>omega) (Weak.rfl' _ _)
   ·exact bad (.inr (.inl (by omega))) hz.mem
   ·exact bad (.inl (by omega)) hz.mem
  ·rw[take_length]at hok3
   (repeat' (simp only[EVz,seval,↓reduceIte,EV6,EV7,hnz,hx.le0,hx.lt',hx.row,hw]))
   refine ap hx () ?_ (Weak.rfl' _ _)
   rw[hok,ek,if_neg (by rintro(⟨e,he,hc⟩|⟨z,hz,hc⟩);exact hok2 e he hc;exact hok3 z hz hc),hx.take]
 ·exact RET.eq hR (by rw[hok,ek])
end
def lK (l:List Dd):Bool:=decide (l.length<=8)&&l.all λd=>d.it.few
def fineU (u:U) (l:List Dd):Bool:=u.few 30&&(ig u&&(lK l&&ek u.ids [] l))
theorem lR {ids:List Idd} (hi:ids≠[]):∀{l p:List Dd},ek ids p l=true->∀d∈l,1<=d.act
 |[],_,_,d,hd=>by cases hd
 |x::l,p,h,d,hd=>by
  rw[ek]at h
  split at h
  ·cases h
  ·rename_i hc
   rw[not_or]at hc
   rcases mem_cons.1 hd with rfl|hd
   ·obtain⟨y,hy⟩:=exists_mem_of_ne_nil ids hi
    have:¬fw d y:=λhcl=>hc.2 ⟨y,hy,hcl⟩
    unfold fw at this
    omega
   ·exact lR hi h d hd
section
variable (G:Glob)
theorem f34 (l:List Dd) (hl:l.length<9000000000000000000) (hf:∀d∈l,d.it.fit):Pure G Tryz.prog 34 [.lst 28 (l.map Dd.cs)] (.bool (lK l)):=by
 refine Pure.w c34 λR hR=>?_
 unfold s34 r34
 unfold lK at hR
 have e0:decide ((8:Int)<(l.length:Int))= !decide (l.length<=8):=by
  by_cases h:l.length<=8
  ·rw[decide_eq_true h,decide_eq_false (by omega)];rfl
  ·rw[decide_eq_false h,decide_eq_true (by omega)];rfl
 by_cases h8:l.length<=8
 ·rw[decide_eq_true h8,Bool.true_and]at hR
  have e1:((8:Int)<(l.length:Int))=False:=eq_false (by omega)
  (repeat' (first|simp only[EVz,seval,↓reduceIte,EV6,EV7,e1,hx.yes,hx.le0,hx.lt',hx.get,hx.row,hw]|simp only[EVz,seval,↓reduceIte,EV6,EV7,e1,hn]|simp only[EVz,seval,↓reduceIte,EV6,EV7,e1]|(refine ay l (λi r (c:Unit)=>(l.all λd=>d.it.few)=(r.all λd=>d.it.few)) (λi c=>[(0,.lst 28 (l.map Dd.cs)),(3,.int .i64 i)]) (λ_ _=>[]) () rfl (Weak.rfl' _ _) (by omega) (λi x r c hok hx hw=>?_) (λc hok hn=>?_))|fail))
  ·have hF:=f55 G x.it (hf _ hx.mem)
   rw[all_cons]at hok
   rw[Itm.cs_eq]at hF
   generalize x.it.few=t at*
   (repeat' (first|(with_reducible (refine ab (λh=>?_) (λh=>?_))<;>(try simp only[Da,Db,Dc,Dw,De,Df,Dg,Dh]at h))|(with_reducible refine aa hF ?_)|simp only[EVz,seval,↓reduceIte,EV6,EV7,hx.yes,hx.le0,hx.lt',hx.get,hx.row,hw,Dd.cs,Itm.cs_eq]|fail))
   ·exact RET.eq hR (by rw[hok,h];rfl)
   ·exact ap hx () (by rw[hok,h,Bool.true_and]) (Weak.rfl' _ _)
  ·(repeat' ((exfalso;omega)))
   exact RET.eq hR (by rw[hok];rfl)
 ·rw[decide_eq_false h8,Bool.false_and]at hR
  have e1:((8:Int)<(l.length:Int))=True:=eq_true (by omega)
  (repeat' (simp only[EVz,seval,↓reduceIte,EV6,EV7,e1]))
  exact RET.eq hR rfl
theorem f13 (u:U) (hfit:u.fit) (l:List Dd) (hl:l.length<1000000000000000000) (hf:∀d∈l,d.it.fit):Pure G Tryz.prog 13 [.agg u.cs,.lst 28 (l.map Dd.cs)] (.bool (fineU u l)):=by
 have hW:=f9 G u 30 hfit (by omega) (by omega)
 have hQ:=f34 G l (by omega) hf
 refine Pure.w c13 λR hR=>?_
 unfold s13 r13
 unfold fineU at hR
 cases h1:u.few 30 with
 |false=>
  rw[h1]at hW hR
  (repeat' (first|(with_reducible refine aa hW ?_)|simp only[EVz,seval,↓reduceIte,EV6,EV7]|fail))
  all_goals exact RQ hR
 |true=>
 have hs:=kY hfit (by omega) (by omega) h1
 have hB:=f33 G u hs
 cases h2:ig u with
 |false=>
  rw[h1]at hW
  rw[h1,h2]at hR
  rw[h2]at hB
  (repeat' (first|(with_reducible first|refine aa hW ?_|refine aa hB ?_)|simp only[EVz,seval,↓reduceIte,EV6,EV7]|fail))
  all_goals exact RQ hR
 |true=>
 rw[h2]at hB
 cases h3:lK l with
 |false=>
  rw[h1]at hW
  rw[h1,h2,h3]at hR
  rw[h3]at hQ
  (repeat' (first|(with_reducible first|refine aa hW ?_|refine aa hB ?_|refine aa hQ ?_)|simp only[EVz,seval,↓reduceIte,EV6,EV7]|fail))
  all_goals exact RQ hR
 |true=>
 have hl8:l.length<=8:=by
  unfold lK at h3
  simp only[Bool.and_eq_true,decide_eq_true_eq]at h3
  exact h3.1
 have hFr:=f35 G u hs.1 l (by omega)
 rw[h1]at hW
 rw[h1,h2,h3]at hR
 rw[h3]at hQ
 simp only[Bool.true_and]at hR
 (repeat' (first|(with_reducible first|refine aa hW ?_|refine aa hB ?_|refine aa hQ ?_|refine aa hFr ?_)|simp only[EVz,seval,↓reduceIte,EV6,EV7]|fail))
 all_goals exact RQ hR
end
section
variable (G:Glob)
variable (hG:GOk G)
include hG
end
theorem le_zU:LeRep (.agg zU) (.agg eQ.cs):=by
 refine LeRep.agg ?_
 rw[U.cs_eq]
 unfold zU
 repeat' first
  |exact LeReps.nil
  |refine LeReps.cons ?_ ?_
 all_goals first|exact LeRep.refl _|exact LeRep.nil
section
variable (G:Glob) (hG:GOk G)
include hG
end
def fX:U:=⟨zId,2,[53],[],[],[]⟩
def eItm:Itm:=⟨0,[],[],1,0,fX,[],[],[],[],⟨0,0,[]⟩,0,0,0,[],[]⟩
def eDd:Dd:=⟨1,0,0,eItm⟩
def ePt:Pt:=⟨0,0,⟨1,0,1⟩,zId,noU,[],[]⟩
def k7:U:=⟨zId,0,[],[],[],[⟨⟨1,0,1⟩,2,[53],[],[],[]⟩]⟩
set_option maxRecDepth 100000 in
theorem e_all:allU eQ [eDd]=(k7,[ePt]):=by kernel_rfl
set_option maxRecDepth 100000 in
theorem e_rev:revP k7 ePt=(eQ,0):=by kernel_rfl
theorem e_unit:fX.Short:=by
 have hf:fX.fit:=(U.fit_eq _).2 ⟨by decide,⟨by decide,by simp[fX]⟩,⟨by decide,by simp[fX]⟩,by decide,by simp[fX]⟩
 have hl:fX.flat=[fX]:=by rw[U.flat_eq];show fX::U.flats []=_;rw[U.flats]
 refine⟨⟨hf,by rw[hl];decide⟩,?_⟩
 rw[hl]
 intro x hx
 simp only[mem_singleton]at hx
 subst hx
 exact⟨by decide,by decide,by decide,by simp[fX],by simp[fX]⟩
theorem e_itm:eItm.Shorts:=(Itm.Shorts_eq _).2 ⟨⟨(Itm.fit_eq _).2 ⟨by decide,by decide,e_unit.1.1,by decide,by decide,by decide,by simp[eItm]⟩,e_unit,by decide,by decide,by simp[eItm],by simp[eItm],by decide,by decide,by decide,by decide,by decide,by decide⟩,by simp[eItm]⟩
def eRow:List AV:=[.int .i64 1,.int .i64 0,.int .i64 0,.int .i64 0,.nil,.nil,.int .i64 1,.int .i64 0,.int .i64 0,.int .i64 0,.int .i64 0,.int .i64 2,.str [53],.nil,.nil,.nil,.nil,.nil,.str [],.str [],.int .i64 0,.int .i64 0,.str [],.int .i64 0,.int .i64 0,.int .i64 0,.str [],.nil]
theorem le_eRow:LeReps eRow (Dd.cs eDd):=by
 unfold eRow Dd.cs
 rw[Itm.cs_eq]
 repeat' first
  |exact LeReps.nil
  |refine LeReps.cons ?_ ?_
 all_goals first|exact LeRep.refl _|exact LeRep.nil
theorem e_good:Good k7:=by
 have:=(iY (l:=[eDd]) (u:=eQ) lf rfl).1
 rw[e_all]at this
 exact this
def eAV:AV:=.tup [.agg [.int .i64 0,.int .i64 0,.int .i64 0,.int .i64 0,.str [],.lst 4 [],.lst 4 [],.lst 8 [[.int .i64 1,.int .i64 0,.int .i64 1,.int .i64 2,.str [53],.lst 4 [],.lst 4 [],.lst 8 []]]],
 .lst 18 [[.int .i64 0,.int .i64 0,.int .i64 1,.int .i64 0,.int .i64 1,.int .i64 0,.int .i64 0,.int .i64 0,.int .i64 0,.int .i64 0,.int .i64 0,.int .i64 0,.str [],.lst 4 [],.lst 4 [],.lst 8 [],.str [],.lst 4 []]]]
theorem e_av:mb (k7,[ePt])=eAV:=by kernel_rfl
theorem e_bk:k7.cs=[.int .i64 0,.int .i64 0,.int .i64 0,.int .i64 0,.str [],.lst 4 [],.lst 4 [],.lst 8 [[.int .i64 1,.int .i64 0,.int .i64 1,.int .i64 2,.str [53],.lst 4 [],.lst 4 [],.lst 8 []]]]:=by kernel_rfl
theorem e_pt:ePt.cs=[.int .i64 0,.int .i64 0,.int .i64 1,.int .i64 0,.int .i64 1,.int .i64 0,.int .i64 0,.int .i64 0,.int .i64 0,.int .i64 0,.int .i64 0,.int .i64 0,.str [],.lst 4 [],.lst 4 [],.lst 8 [],.str [],.lst 4 []]:=by kernel_rfl
theorem e_em:aO (eQ,0)= .tup [.agg [.int .i64 0,.int .i64 0,.int .i64 0,.int .i64 0,.str [],.lst 4 [],.lst 4 [],.lst 8 []],.int .i64 0]:=by kernel_rfl
theorem e_tx:[105,110,115,101,114,116,101,100,32]++idTx ePt.id=[105,110,115,101,114,116,101,100,32,49,46,48,46,49]:=by
 unfold idTx ePt
 rw[fA (n:=1) (by decide) (by decide),fA (n:=0) (by decide) (by decide)]
 rfl
section
variable (G:Glob) (hG:GOk G) (hG2:GOk2 G)
theorem f26:Pure G Tryz.prog 26 [] (.agg zU):=by
 refine Pure.w c26 λR hR=>?_
 unfold s26 r26
 (repeat' (first|(with_reducible (first|refine ab (λh=>?_) (λh=>?_)|refine ai (λh=>?_) (λh=>?_)|refine aj (λh=>?_) (λh=>?_))<;>(try simp only[Da,Db,Dc,Dw,De,Df,Dg,Dh]at h))|(with_reducible refine AI (by omega) ?_)|simp only[EVz,seval,↓reduceIte,EV6,EV7,hne]|simp only[EVz,seval,↓reduceIte,EV6,EV7]|(with_reducible intro blk hblk;(try(have hnx:=hblk;simp only[EVK]at hnx;first|(have hne:=AI hnx hne)|(have hne:=hnx))))|(with_reducible refine ae ?_ ?_)|(with_reducible refine af ?_)|(exfalso;omega)))
 all_goals exact RQ hR
theorem Fmt0 (hG2:GOk2 G) (p:Pt) (h0:p.kind=0) (h:inI p.id.act/\inI p.id.item/\inI p.id.n):Pure G Tryz.prog 11 [.agg p.cs] (.str ([105,110,115,101,114,116,101,100,32]++idTx p.id)):=by
 have l1:=idTx_len h
 have d1:=f27 G hG2 p.id h
 simp only[Idd.cs]at d1
 have e0:decide (p.kind=0)=true:=decide_eq_true h0
 refine Pure.w c11 λR hR=>?_
 unfold s11 r11
 unfold Pt.cs
 (repeat' (first|(with_reducible (first|refine ab (λh=>?_) (λh=>?_)|refine ai (λh=>?_) (λh=>?_)|refine aj (λh=>?_) (λh=>?_))<;>(try simp only[Da,Db,Dc,Dw,De,Df,Dg,Dh]at h))|(with_reducible refine AI (by omega) ?_)|(with_reducible refine aa d1 ?_)|simp only[EVz,seval,↓reduceIte,EV6,EV7,e0,length_append,length_cons,length_nil,hne]|simp only[EVz,seval,↓reduceIte,EV6,EV7,e0,length_append,length_cons,length_nil]|(with_reducible intro blk hblk;(try(have hnx:=hblk;simp only[EVK]at hnx;first|(have hne:=AI hnx hne)|(have hne:=hnx))))|(with_reducible refine ae ?_ ?_)|(with_reducible refine af ?_)|(exfalso;omega)))
 all_goals exact RQ hR
include hG
theorem u_call (g:Option Nat):Pure G Tryz.prog 19 [.agg zU,.own g 54 28 [eRow]] (mb (k7,[ePt])):=by
 have h:=f19 G hG eQ lf [eDd] (by decide) (λx hx=>by
  simp only[mem_singleton]at hx
  subst hx
  exact e_itm)
 rw[e_all]at h
 exact h.lr (.cons le_zU (.cons (LeRep.own (.cons le_eRow .nil)) .nil))
include hG2
set_option maxHeartbeats 4000000 in
theorem f10:Pure G Tryz.prog 10 [] (.bool true):=by
 have hE:=f26 G
 have hA:=u_call G hG
 have hF:=Fmt0 G hG2 ePt rfl ⟨⟨by decide,by decide⟩,⟨by decide,by decide⟩,by decide,by decide⟩
 have hR1:=f14 G hG k7 e_good rfl ePt dK (by decide) (by decide)
 rw[e_rev,e_em,e_bk,e_pt]at hR1
 rw[e_tx,e_pt]at hF
 rw[e_av]at hA
 unfold eAV zU eRow at hA
 unfold zU at hE
 refine Pure.w c10 λR hR=>?_
 unfold s10 r10
 (repeat' (first|(with_reducible (first|refine ab (λh=>?_) (λh=>?_)|refine ai (λh=>?_) (λh=>?_)|refine aj (λh=>?_) (λh=>?_))<;>(try simp only[Da,Db,Dc,Dw,De,Df,Dg,Dh]at h))|(with_reducible refine AI (by omega) ?_)|(with_reducible first|refine aa hE ?_|refine aa (hA _) ?_|refine aa hF ?_|refine aa hR1 ?_)|simp only[EVz,seval,↓reduceIte,EV6,EV7,hne]|simp only[EVz,seval,↓reduceIte,EV6,EV7]|(with_reducible intro blk hblk;(try(have hnx:=hblk;simp only[EVK]at hnx;first|(have hne:=AI hnx hne)|(have hne:=hnx))))|(with_reducible refine ae ?_ ?_)|(with_reducible refine af ?_)|(refine⟨[[.int .i64 1,.int .i64 0,.int .i64 0,.int .i64 0,.nil,.nil,.int .i64 1,.int .i64 0,.int .i64 0,.int .i64 0,.int .i64 0,.int .i64 2,.str [53],.nil,.nil,.nil,.nil,.nil,.str [],.str [],.int .i64 0,.int .i64 0,.str [],.int .i64 0,.int .i64 0,.int .i64 0,.str [],.nil]],rfl,(by simp),rfl,?_⟩)|(exfalso;omega)))
 all_goals first|exact RQ hR|(exfalso;revert h;decide)|(exfalso;simp at h;done)|(exfalso;omega)
end
theorem oP {u:U} {l:List Dd} (hfit:u.fit) (hb:∀d∈l,d.it.fit) (h:fineU u l=true):Good u/\u.kind=0/\l.length<=8/\(∀d∈l,d.it.Shorts)/\∀d∈l,1<=d.act:=by
 unfold fineU at h
 simp only[Bool.and_eq_true]at h
 obtain⟨h1,h2,h3,h4⟩:=h
 have hg:=nW h2
 have hk0:u.kind=0:=by unfold ig at h2;simp only[Bool.and_eq_true,decide_eq_true_eq]at h2;exact h2.1
 unfold lK at h3
 simp only[Bool.and_eq_true,decide_eq_true_eq,all_eq_true]at h3
 exact⟨hg,hk0,h3.1,λd hd=>ov d.it (hb d hd) (h3.2 d hd),lR (by rw[U.ids_eq];simp) h4⟩
theorem i7:noU.flat.length<=1000000:=by
 have hl:noU.flat=[noU]:=by rw[U.flat_eq];show noU::U.flats []=_;rw[U.flats]
 rw[hl];decide
theorem undo_unit {u:U} (hg:Good u) (d:Dd):(invP u d).1.unit.Short/\(invP u d).1.unit.flat.length<=1000000/\(invP u d).1.words.length<1000000:=by
 have hs:=hg.short
 have hX:=fb hs (one u d.it.at_).1
 have h9:(fnd (one u d.it.at_).1 u).flat.length<=1000000:=by have:=hX.1.2;omega
 have h8:=(hX.2 _ (U.flat_self _))
 unfold invP
 split
 ·exact⟨dK,i7,by simp[zPt]⟩
 ·unfold mkPt
  split
  ·exact⟨dK,i7,by simp⟩
  split
  ·exact⟨hX,h9,by simp⟩
  split
  ·exact⟨dK,i7,h8.2.2.1⟩
  split
  ·exact⟨dK,i7,h8.2.1⟩
  split
  ·exact⟨dK,i7,by simp⟩
  ·exact⟨dK,i7,by simp⟩
section
variable (G:Glob) (hG:GOk G) (hG2:GOk2 G)
include hG hG2
set_option maxHeartbeats 8000000 in
theorem f5 (u:U) (hfit:u.fit) (d:Dd) (hb:d.it.big):Pure G Tryz.prog 5 [.agg u.cs,.agg d.cs] (.bool true):=by
 have hf:=big_fit d.it hb
 have hAw:=f10 G hG hG2
 have hFi:=f13 G u hfit [d] (by simp) (λx hx=>by simp only[mem_singleton]at hx;subst hx;exact hf)
 have hds:d.cs.length=28:=by unfold Dd.cs;simp[Itm.cs_len]
 simp only[map_cons,map_nil]at hFi
 cases h1:fineU u [d]with
 |false=>
  rw[h1]at hFi
  unfold Dd.cs at hFi hds ⊢
  rw[Itm.cs_eq]at hFi hds ⊢
  refine Pure.w c5 λR hR=>?_
  unfold s5 r5
  (repeat' (first|(with_reducible refine aa hAw ?_)|simp only[EVz,seval,↓reduceIte,EV6,EV7,hne]|simp only[EVz,seval,↓reduceIte,EV6,EV7]|(with_reducible intro blk hblk;(try(have hnx:=hblk;simp only[EVK]at hnx;(have hne:=hnx))))|(refine⟨[_],rfl,(by intro r hr;simp only[mem_singleton]at hr;subst hr;exact hds),rfl,?_⟩)|(refine aE hFi ⟨AVle.rfl' _,.inl (.inr ⟨rfl,rfl⟩),trivial⟩ ?_)|fail))
  all_goals exact RQ hR
 |true=>
 rw[h1]at hFi
 obtain⟨hg,hk0,_,hsh,ha⟩:=oP hfit (λx hx=>by simp only[mem_singleton]at hx;subst hx;exact hf) h1
 have hsh:=hsh d (by simp)
 have ha:=ha d (by simp)
 have hV:=f17 G hG u hg d hsh
 have hA:=f18 G hG u hg d hsh
 obtain⟨gv,rv⟩:=fz hg d
 have gv0:=rv.kind.trans hk0
 obtain⟨s1,s2,s3⟩:=undo_unit hg d
 have hRv:=f14 G hG (doP u d).1 gv gv0 (invP u d).1 s1 s2 s3
 obtain⟨x1,x2,x3⟩:=ez hg hk0 ha
 have hSm:=f16 G u hfit u
 rw[decide_eq_true (rfl:u=u)]at hSm
 unfold invAV at hV
 unfold aO at hA hRv
 rw[x1]at hV
 have hU:=U.cs_eq u
 have hVl:=U.cs_len (doP u d).1
 have hVt:(doP u d).1.cs.take 8=(doP u d).1.cs:=take_of_length_le (by omega)
 have hPl:=Pt.cs_len (invP u d).1
 have hPt:(invP u d).1.cs.take 18=(invP u d).1.cs:=take_of_length_le (by omega)
 by_cases he:(doP u d).2=0
 ·have hx3:=x3 he
  rw[hx3]at hRv
  rw[he]at hV hA
  generalize (doP u d).1.cs=vs at*
  generalize (invP u d).1.cs=ps at*
  unfold Dd.cs at hFi hds hV hA ⊢
  rw[Itm.cs_eq]at hFi hds hV hA ⊢
  rw[hU]at hFi hV hA hRv hSm ⊢
  refine Pure.w c5 λR hR=>?_
  unfold s5 r5
  (repeat' (first|(with_reducible first|refine aa hAw ?_|refine aa hV ?_|refine aa hA ?_|refine aa hRv ?_|refine aa hSm ?_)|simp only[EVz,seval,↓reduceIte,EV6,EV7,hVl,hVt,hPl,hPt,hne]|simp only[EVz,seval,↓reduceIte,EV6,EV7,hVl,hVt,hPl,hPt]|(with_reducible intro blk hblk;(try(have hnx:=hblk;simp only[EVK]at hnx;first|(have hne:=AI hnx hne)|(have hne:=hnx))))|(refine⟨[_],rfl,(by intro r hr;simp only[mem_singleton]at hr;subst hr;exact hds),rfl,?_⟩)|(refine aE hFi ⟨AVle.rfl' _,.inl (.inr ⟨rfl,rfl⟩),trivial⟩ ?_)|fail))
  all_goals exact RQ hR
 ·have hinv:(invP u d).1=zPt:=by unfold invP;rw[if_pos he]
  have hFm:=Fmt0 G hG2 (invP u d).1 (by rw[hinv];rfl) (by rw[hinv];exact⟨⟨by decide,by decide⟩,⟨by decide,by decide⟩,by decide,by decide⟩)
  have hft:[105,110,115,101,114,116,101,100,32]++idTx (invP u d).1.id=[105,110,115,101,114,116,101,100,32,48,46,48,46,48]:=by
   rw[hinv]
   unfold idTx zPt zId
   rw[fA (n:=0) (by decide) (by decide)]
   rfl
  rw[hft]at hFm
  generalize (doP u d).1.cs=vs at*
  generalize (invP u d).1.cs=ps at*
  generalize (doP u d).2=e at*
  have e1:decide (e≠0)=true:=decide_eq_true he
  have e2:decide (e≠e)=false:=decide_eq_false (λh=>h rfl)
  unfold Dd.cs at hFi hds hV hA ⊢
  rw[Itm.cs_eq]at hFi hds hV hA ⊢
  rw[hU]at hFi hV hA ⊢
  refine Pure.w c5 λR hR=>?_
  unfold s5 r5
  (repeat' (first|(with_reducible first|refine aa hAw ?_|refine aa hV ?_|refine aa hA ?_|refine aa hFm ?_)|simp only[EVz,seval,↓reduceIte,EV6,EV7,hVl,hVt,hPl,hPt,e1,e2,hne]|simp only[EVz,seval,↓reduceIte,EV6,EV7,hVl,hVt,hPl,hPt,e1,e2]|(with_reducible intro blk hblk;(try(have hnx:=hblk;simp only[EVK]at hnx;first|(have hne:=AI hnx hne)|(have hne:=hnx))))|(refine⟨[_],rfl,(by intro r hr;simp only[mem_singleton]at hr;subst hr;exact hds),rfl,?_⟩)|(refine aE hFi ⟨AVle.rfl' _,.inl (.inr ⟨rfl,rfl⟩),trivial⟩ ?_)|fail))
  all_goals exact RQ hR
end
end Go.Av
