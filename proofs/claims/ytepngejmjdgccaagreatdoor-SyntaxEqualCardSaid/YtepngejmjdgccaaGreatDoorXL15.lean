/-
  LINT, 15: shapes by the reference.
-/
import Derived.Test.YtepngejmjdgccaaGreatDoorXL13toXL14
namespace Go.Av
open Go Go.RowKit Go.Proofs
set_option linter.unusedSimpArgs false
set_option linter.unusedVariables false
section
def bareOk (u:U):Bool:=treeOk u&&decide (u=u.strip)
def alone11 (u:U):Bool:=
 if u.kind=0 then decide (u.label=[])&&(decide ((u.head.length:Int)=0)&&decide ((u.words.length:Int)=0))
 else decide (0<u.kind)&&(decide (u.kind<=7)&&(labelOk u.label&&(rowOk u.head&&rowOk u.words)))
mutual
def U.shape:Int->U->Bool
 |d,⟨i,k,l,h,w,ks⟩=>((decide (d<=8)&& !(decide (0<d)&&decide (k=0)))&&(alone11 ⟨i,k,l,h,w,ks⟩&&decide ((ks.length:Int)<=64)))&&(U.shapes (d+1) k ks&&decide (Apart ks))
def U.shapes:Int->Int->List U->Bool
 |_,_,[]=>true
 |d,k,u::us=>(nests k u.kind&&U.shape d u)&&U.shapes d k us
end
theorem U.shape_eq (u:U) (d:Int):u.shape d=(((decide (d<=8)&& !(decide (0<d)&&decide (u.kind=0)))&&(alone11 u&&decide ((u.kids.length:Int)<=64)))&&(U.shapes (d+1) u.kind u.kids&&decide (Apart u.kids))):=by cases u;rw[U.shape]
def shapeOk (u:U):Bool:=u.shape 0&&decide (u.cnt<=1024)
section
variable (G:Glob)
theorem f30 (u:U) (hs:u.Short):Pure G Tryz.prog 30 [.agg u.cs] (.bool (bareOk u)):=by
 refine Pure.w c30 λR hR=>?_
 unfold s30 r30
 have hfit:=hs.1.1
 (repeat' (first|(with_reducible (refine gd_case (λh=>?_) (λh=>?_))<;>(try simp only[Da,Db,Dc,Dw,De,Df,Dg,Dh]at h))|(with_reducible refine CALL_pure (f53 G u hs) ?_)|(with_reducible refine CALL_pure (f54 G u hs) ?_)|(with_reducible refine CALL_pure (f24 G u hfit _) ?_)|simp only[EVz,seval,↓reduceIte,EV6,EV7]))
 (all_goals(((refine RET.eq hR ?_;((simp_all[bareOk];done))))))
theorem f134 (u:U) (hl:u.label.length<1000000000000000000) (hh:u.head.length<1000000) (hw:u.words.length<1000000) (hh2:∀w∈u.head,w.text.length<1000000000000000000) (hw2:∀w∈u.words,w.text.length<1000000000000000000):Pure G Tryz.prog 134 [.agg u.cs] (.bool (alone11 u)):=by
 refine Pure.w c134 λR hR=>?_
 unfold s134 r134
 (repeat' (first|(with_reducible (first|refine split_case (λh=>?_) (λh=>?_)|refine gd_case (λh=>?_) (λh=>?_))<;>(try simp only[Da,Db,Dc,Dw,De,Df,Dg,Dh]at h))|(with_reducible refine CALL_pure (f179 G _ hh hh2) ?_)|(with_reducible refine CALL_pure (f179 G _ hw hw2) ?_)|(with_reducible refine CALL_pure (f32 G _ hl) ?_)|simp only[EVz,seval,↓reduceIte,EV6,EV7]))
 (all_goals(((refine RET.eq hR ?_;first|(simp_all[alone11];done)|(simp_all[alone11];omega)))))
theorem f77:∀(u:U) (d:Int),u.Short->0<=d->d<=1000000->Pure G Tryz.prog 77 [.agg u.cs,.int .i64 d] (.bool (u.shape d)):=by
 refine U.ind λu ih d hs hd0 hd1=>?_
 have hkl:=hs.1.kids
 have h0:=hs.2 u u.flat_self
 have hap0:Apart ([]:List U):=by unfold Apart;simp
 have hwd:IntKind.i64.wrap (d+1)=d+1:=wrap_i64 (by omega) (by omega)
 refine Pure.w c77 λR hR=>?_
 unfold s77 r77
 rw[U.shape_eq]at hR
 (repeat' (first|(with_reducible (first|refine split_case (λh=>?_) (λh=>?_)|refine gd_case (λh=>?_) (λh=>?_))<;>(try simp only[Da,Db,Dc,Dw,De,Df,Dg,Dh]at h))|(with_reducible refine CALL_pure (f134 G u h0.1 h0.2.1 h0.2.2.1 h0.2.2.2.1 h0.2.2.2.2) ?_)|(with_reducible refine CALL_pure (f135 G _ _) ?_)|(with_reducible refine CALL_pure (ih x hx.mem (d+1) (hs.kid hx.mem) (by omega) (by omega)) ?_)|simp only[EVz,seval,↓reduceIte,EV6,EV7,hwd,hy.yes,hy.le0,hy.lt',hy.row,hwk,hx.le0,hx.lt',hx.row]|simp only[EVz,seval,↓reduceIte,EV6,EV7,hwd,hnk,hx.le0,hx.lt',hx.row,hw]|simp only[EVz,seval,↓reduceIte,EV6,EV7,hwd,hx.yes,hx.le0,hx.lt',hx.get,hx.row,hw]|simp only[EVz,seval,↓reduceIte,EV6,EV7,hwd,hn]|simp only[EVz,seval,↓reduceIte,EV6,EV7,hwd]|(with_reducible intro blk hblk;(try(have hnx:=hblk;simp only[EVK]at hnx;(have hne:=hnx))))|(refine LK_next hx () ?_ (Weak.sub (SubN.nil _)))|(refine W_list (u.kids) (λi r (c:Unit)=>U.shapes (d+1) u.kind u.kids=U.shapes (d+1) u.kind r/\Apart (u.kids.take i)) (λi c=>[(1,.int .i64 d),(2,.ref u.cs),(5,.int .i64 i)]) (λ_ _=>[]) () (by((simp[*];done))) (Weak.rfl' _ _) (by omega) (λi x r c hok hx hw=>?_) (λc hok hn=>?_))|(refine W_take (u.kids) (i) (Nat.le_of_lt hx.lt) (λk (c:Unit)=>∀y∈u.kids.take k,¬(y.kind=x.kind/\y.label=x.label)) (λk c=>[(1,.int .i64 d),(2,.ref u.cs),(5,.int .i64 i),(6,.sc (.pointer (some ⟨blk,0,none⟩))),(7,.int .i64 k)]) (λ_ _=>[(blk,.cells 34 x.cs)]) () (by simp) (Weak.rfl' _ _) (by have:=hx.lt;omega) (λk y c hok2 hy hwk=>?_) (λc hok2 hnk=>?_))|(refine LT_next hy () ?_ (Weak.rfl' _ _))))
 all_goals first
  |exact RET.eq hR (by rw[hok.1,U.shapes,h,Bool.and_false];simp)
  |exact RET.eq hR (by rw[decide_eq_false (apart_no hx hy.mem (by assumption) h)];simp)
  |(rw[hy.take]at hblk
    rcases List.mem_append.1 hblk with hb|hb
    ·exact hok2 _ hb
    ·simp only[List.mem_singleton]at hb;subst hb;first|exact λe=>h e.2|exact λe=>h e.1)
  |(rename_i hn1;exact⟨by rw[hok.1,U.shapes,hn1,h];rfl,apart_more hx hok.2 hok2⟩)
  |exact RET.eq hR (by rw[hok.1,U.shapes,h];simp)
  |(rw[List.take_length]at hok;exact RET.eq hR (by simp[hok.1,U.shapes,decide_eq_true hok.2, *]))
  |(refine RET.eq hR ?_;simp[*];done)
  |(refine RET.eq hR ?_;simp[*];intros;omega)
  |exact RET.eq hR (by simp[*,hok.1,hok.2,U.shapes];omega)
theorem f51 (u:U) (hs:u.Short):Pure G Tryz.prog 51 [.agg u.cs] (.bool (shapeOk u)):=by
 have ht:=hs.1
 refine Pure.w c51 λR hR=>?_
 unfold s51 r51
 (repeat' (first|(with_reducible (refine gd_case (λh=>?_) (λh=>?_))<;>(try simp only[Da,Db,Dc,Dw,De,Df,Dg,Dh]at h))|(with_reducible refine CALL_pure (f77 G u 0 hs (by omega) (by omega)) ?_)|(with_reducible refine CALL_pure (f78 G u ht) ?_)|simp only[EVz,seval,↓reduceIte,EV6,EV7]))
 (all_goals(((refine RET.eq hR ?_;((simp_all[shapeOk];done))))))
end
end
end Go.Av
