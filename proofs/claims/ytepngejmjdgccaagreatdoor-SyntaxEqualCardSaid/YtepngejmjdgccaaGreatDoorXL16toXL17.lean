/-
  LINT, 16: lines by the reference.
-/
import Derived.Test.YtepngejmjdgccaaGreatDoorXL15
namespace Go.Av
open Go Go.RowKit Go.Proofs
set_option linter.unusedSimpArgs false
set_option linter.unusedVariables false
section
def kindNames:List (List UInt8):=[[98,111,111,107],[112,97,114,116],[115,101,99,116,105,111,110],[112,97,114,97,103,114,97,112,104],[116,97,98,108,101],[114,111,119],[99,101,108,108],[110,111,116,101]]
def kindText (k:Int):List UInt8:=kindNames.getD k.toNat []
def escT (t:List UInt8):List UInt8:=if t.getD 0 0=124\/t.getD 0 0=92 then 92::t else t
def wordsT (l:List Wd):List UInt8:=l.flatMap λw=>32::escT w.text
def lineT (u:U) (n:Nat):List UInt8:=
 List.replicate (2*n) 32++(kindText u.kind++((if u.kind=0 then []else 32::u.label)++((if (0:Int)<u.head.length then 58::wordsT u.head else [])++(if (0:Int)<u.words.length then 32::124::wordsT u.words else []))))
def lineOf (u:U) (n:Nat):List UInt8:=if n<=8/\alone11 u=true then lineT u n else []
mutual
def U.lines:Nat->U->List (List UInt8)
 |n,⟨i,k,l,h,w,ks⟩=>lineOf ⟨i,k,l,h,w,ks⟩ n::U.liness (n+1) ks
def U.liness:Nat->List U->List (List UInt8)
 |_,[]=>[]
 |n,u::us=>U.lines n u++U.liness n us
end
theorem U.lines_eq (u:U) (n:Nat):u.lines n=lineOf u n::U.liness (n+1) u.kids:=by cases u;rw[U.lines]
theorem U.liness_cons (u:U) (us:List U) (n:Nat):U.liness n (u::us)=u.lines n++U.liness n us:=by rw[U.liness]
theorem U.lines_len:∀(u:U) (n:Nat),(u.lines n).length=u.flat.length:=by
 refine U.ind λu ih n=>?_
 rw[U.lines_eq,U.flat_eq]
 simp only[List.length_cons]
 congr 1
 have:∀us:List U,(∀k∈us,∀m,(k.lines m).length=k.flat.length)->(U.liness (n+1) us).length=(U.flats us).length:=by
  intro us
  induction us with
  |nil=>intro _;rfl
  |cons a us iha=>intro h;rw[U.liness_cons,U.flats,List.length_append,List.length_append,h a (by simp),iha λk hk=>h k (by simp[hk])]
 exact this _ ih
theorem row_word {l:List Wd} (h:rowOk l=true) {w:Wd} (hw:w∈l):0<w.text.length/\w.text.length<=24:=by
 unfold rowOk at h
 simp only[Bool.and_eq_true,decide_eq_true_eq,List.all_eq_true]at h
 have h1:=h.2 w hw
 unfold wdOk wordOk at h1
 simp only[Bool.and_eq_true,decide_eq_true_eq]at h1
 omega
theorem row_len {l:List Wd} (h:rowOk l=true):l.length<=256:=by
 unfold rowOk at h
 simp only[Bool.and_eq_true,decide_eq_true_eq,List.all_eq_true]at h
 omega
theorem escT_len (t:List UInt8):(escT t).length<=t.length+1:=by unfold escT;split<;>simp
theorem wordsT_len:∀{l:List Wd},(∀w∈l,0<w.text.length/\w.text.length<=24)->(wordsT l).length<=l.length*26
 |[],_=>by simp[wordsT]
 |w::l,h=>by
  have h1:=(h w (by simp)).2
  have h2:=wordsT_len (l:=l) λx hx=>h x (by simp[hx])
  have h3:=escT_len w.text
  unfold wordsT at*
  simp only[List.flatMap_cons,List.length_append,List.length_cons]
  omega
theorem kindText_len (k:Int):(kindText k).length<=9:=by
 unfold kindText
 have:∀n:Nat,(kindNames.getD n []).length<=9:=λn=>by
  match n with
  |0|1|2|3|4|5|6|7=>decide
  |n+8=>simp[kindNames]
 exact this _
theorem alone_facts {u:U} (h:alone11 u=true):0<=u.kind/\u.kind<=7/\rowOk u.head=true/\rowOk u.words=true/\u.label.length<=9:=by
 unfold alone11 at h
 split at h
 ·rename_i hk
  simp only[Bool.and_eq_true,decide_eq_true_eq]at h
  obtain⟨h1,h2,h3⟩:=h
  have e2:u.head=[]:=List.length_eq_zero_iff.1 (by omega)
  have e3:u.words=[]:=List.length_eq_zero_iff.1 (by omega)
  rw[e2,e3,h1]
  exact⟨by omega,by omega,by decide,by decide,by simp⟩
 ·simp only[Bool.and_eq_true,decide_eq_true_eq]at h
  obtain⟨h1,h2,h3,h4,h5⟩:=h
  refine⟨by omega,h2,h4,h5,?_⟩
  unfold labelOk at h3
  simp only[Bool.and_eq_true,decide_eq_true_eq]at h3
  omega
theorem kind_row {k:Int} (h0:0<=k) (h7:k<=7):(kindNames.map srow).getD k.toNat []=[.str (kindText k)]:=by
 have h:k=0\/k=1\/k=2\/k=3\/k=4\/k=5\/k=6\/k=7:=by omega
 rcases h with rfl|rfl|rfl|rfl|rfl|rfl|rfl|rfl<;>rfl
theorem kind_lt {k:Int} (h7:k<=7):k<(kindNames.length:Int):=by show k<8;omega
theorem wordsT_row {l:List Wd} (h:rowOk l=true):(wordsT l).length<=6656:=by
 have:=wordsT_len λw hw=>row_word h hw
 have:=row_len h
 omega
section
variable (G:Glob)
theorem f86:Pure G Tryz.prog 86 [] (.lst 1 (kindNames.map srow)):=by
 refine Pure.w c86 λR hR=>?_
 unfold s86 r86
 simp only[EV1,EV2,EV3,EV4,EV5,Option.map_some,decide_true,decide_false,seval,↓reduceIte,eq_self]
 intro b hb
 exact⟨kindNames.map srow,rfl,by simp[srow],rfl,hR _ _ (Or.inl (Or.inr ⟨rfl,rfl⟩))⟩
theorem f180 (l:List Wd) (hr:rowOk l=true):Pure G Tryz.prog 180 [.lst 4 (l.map Wd.cs)] (.str (wordsT l)):=by
 have hl:=row_len hr
 refine Pure.w c180 λR hR=>?_
 unfold s180 r180
 (repeat' (first|(with_reducible (first|refine split_case (λh=>?_) (λh=>?_)|refine gd_case (λh=>?_) (λh=>?_)|refine pick_case (λh=>?_) (λh=>?_))<;>(try simp only[Da,Db,Dc,Dw,De,Df,Dg,Dh]at h))|(with_reducible refine And.intro (by omega) ?_)|simp only[EVz,seval,↓reduceIte,EV6,EV7,List.length_append,List.length_cons,List.length_nil,hx.yes,hx.le0,hx.lt',hx.get,hx.row,hw]|simp only[EVz,seval,↓reduceIte,EV6,EV7,List.length_append,List.length_cons,List.length_nil,hn]|simp only[EVz,seval,↓reduceIte,EV6,EV7,List.length_append,List.length_cons,List.length_nil]|(with_reducible intro blk hblk;(try(have hnx:=hblk;simp only[EVK]at hnx;first|(have hne:=And.intro hnx hne)|(have hne:=hnx))))|(with_reducible refine both_case ?_ ?_)|(with_reducible refine same_case ?_)|(refine W_list (ι:=List UInt8) (l) (λi r c=>wordsT l=c++wordsT r/\c.length<=i*26) (λi c=>[(0,.lst 4 (l.map Wd.cs)),(3,.str c),(4,.int .i64 i)]) (λ_ _=>[]) ([]) (by first|rfl|(simp;done)|(simp[*];done)|(simp;omega)|omega) (Weak.rfl' _ _) (by omega) (λi x r c hok hx hw=>?_) (λc hok hn=>?_)<;>(try(obtain⟨hp,hp2⟩:=row_word hr hx.mem;have hil:=hx.lt)))|(refine LK_next hx _ ?_ (Weak.rfl' _ _))|(refine LK_next hx _ ?_ (Weak.sub (SubN.nil _)))|(exfalso;omega)))
 ·rw[hok.1]
  have e:escT x.text=92::x.text:=by unfold escT;rw[if_pos];right;exact UInt8.toNat_inj.1 (by show _=92;omega)
  exact⟨by simp[wordsT,e],by omega⟩
 ·rename_i h2
  rw[hok.1]
  have e:escT x.text=x.text:=by
   unfold escT
   rw[if_neg]
   rintro(h3|h3)
   ·exact h2 (by rw[h3];rfl)
   ·exact h (by rw[h3];rfl)
  exact⟨by simp[wordsT,e],by omega⟩
 ·rw[hok.1]
  have e:escT x.text=92::x.text:=by unfold escT;rw[if_pos];left;exact UInt8.toNat_inj.1 (by show _=124;omega)
  exact⟨by simp[wordsT,e],by omega⟩
 ·exact RET.eq hR (by rw[hok.1];simp[wordsT])
theorem f136 (u:U) (n:Nat) (hs:u.Short) (hn:n<=1000000):Pure G Tryz.prog 136 [.agg u.cs,.int .i64 n] (.str (lineOf u n)):=by
 have h0:=hs.2 u u.flat_self
 obtain⟨l,hl⟩:∃l:List Unit,l.length=n:=⟨List.replicate n (),by simp⟩
 subst hl
 refine Pure.w c136 λR hR=>?_
 unfold s136 r136
 have hal:=f134 G u h0.1 h0.2.1 h0.2.2.1 h0.2.2.2.1 h0.2.2.2.2
 by_cases ha:alone11 u=true
 ·obtain⟨a0,a7,ah,aw,al⟩:=alone_facts ha
  have b1:=wordsT_row ah
  have b2:=wordsT_row aw
  have b3:=kindText_len u.kind
  have hlt:=kind_lt a7
  rw[ha]at hal
  have ea:lineOf u l.length=if l.length<=8 then lineT u l.length else []:=by unfold lineOf;simp[ha]
  rw[ea]at hR
  (repeat' (first|(with_reducible (first|refine split_case (λh=>?_) (λh=>?_)|refine gd_case (λh=>?_) (λh=>?_)|refine pick_case (λh=>?_) (λh=>?_))<;>(try simp only[Da,Db,Dc,Dw,De,Df,Dg,Dh]at h))|(with_reducible refine And.intro (by omega) ?_)|(with_reducible refine CALL_pure (hal) ?_)|(with_reducible refine CALL_pure (f86 G) ?_)|(with_reducible refine CALL_pure (f180 G u.head ah) ?_)|(with_reducible refine CALL_pure (f180 G u.words aw) ?_)|simp only[EVz,seval,↓reduceIte,EV6,EV7,List.length_append,List.length_cons,List.length_nil,kind_row a0 a7,hx.yes,hx.le0,hx.lt',hx.get,hx.row,hw]|simp only[EVz,seval,↓reduceIte,EV6,EV7,List.length_append,List.length_cons,List.length_nil,kind_row a0 a7,hn]|simp only[EVz,seval,↓reduceIte,EV6,EV7,List.length_append,List.length_cons,List.length_nil,kind_row a0 a7]|(with_reducible intro blk hblk;(try(have hnx:=hblk;simp only[EVK]at hnx;first|(have hne:=And.intro hnx hne)|(have hne:=hnx))))|(with_reducible refine both_case ?_ ?_)|(with_reducible refine same_case ?_)|(refine W_list (ι:=List UInt8) (l) (λi r c=>c=List.replicate (2*i) 32) (λi c=>[(1,.int .i64 l.length),(2,.ref u.cs),(5,.str c),(6,.int .i64 i)]) (λ_ _=>[]) ([]) (by first|rfl|(simp;done)|(simp[*];done)|(simp;omega)|omega) (Weak.rfl' _ _) (by omega) (λi x r c hok hx hw=>?_) (λc hok hn=>?_)<;>(try((try have hil:=hx.lt);have hcl:=congrArg List.length hok;rw[List.length_replicate]at hcl)))|(refine LK_next hx _ ?_ (Weak.rfl' _ _))|(refine LK_next hx _ ?_ (Weak.sub (SubN.nil _)))|(exfalso;omega)))
  ·rw[hok];simp[Nat.mul_add,List.replicate_succ',List.append_assoc]
  all_goals(refine RET.eq hR (congrArg AV.str ?_);(try unfold lineT);(repeat first|rw[if_pos (by omega)]|rw[if_neg (by omega)]);(try rw[hok]);(try simp))
 ·have ha2:alone11 u=false:=by simpa using ha
  rw[ha2]at hal
  have ea:lineOf u l.length=[]:=by unfold lineOf;simp[ha2]
  rw[ea]at hR
  (repeat' (first|(with_reducible (first|refine split_case (λh=>?_) (λh=>?_)|refine gd_case (λh=>?_) (λh=>?_)|refine pick_case (λh=>?_) (λh=>?_))<;>(try simp only[Da,Db,Dc,Dw,De,Df,Dg,Dh]at h))|(with_reducible refine And.intro (by omega) ?_)|(with_reducible refine CALL_pure (hal) ?_)|simp only[EVz,seval,↓reduceIte,EV6,EV7]|(with_reducible intro blk hblk;(try(have hnx:=hblk;simp only[EVK]at hnx;first|(have hne:=And.intro hnx hne)|(have hne:=hnx))))|(with_reducible refine both_case ?_ ?_)|(with_reducible refine same_case ?_)|(exfalso;omega)))
  (all_goals(first|(exact RET.eq hR rfl)|rfl|(refine RET.eq hR ?_;(refine congrArg AV.bool (Bool.eq_iff_iff.2 ?_);simp only[EVB]at*;omega))|(refine RET.eq hR ?_;first|(simp only[hok,h,EVC,decide_true,decide_false];done)|(simp only[hok,EVC,decide_true,decide_false];done)|(simp only[hok,EVC,decide_true,decide_false];refine congrArg AV.bool (decide_eq_decide.2 ?_);omega)|(simp_all[];done)|(simp_all[];omega)|grind|(norm_cast at*;simp_all[];done)|(norm_cast at*;simp_all[];omega))|(refine hR _ _ (Or.inl (Or.inr ⟨rfl,?_⟩));simp[];done)|(refine hR _ _ (Or.inr ?_);simp[*,AVleL,AVle1,Itm.cs_eq,U.cs_eq,];done)|(rw[hok];simp only[h,EVC,decide_true,decide_false];done)|(rw[hok];simp only[EVC,decide_true,decide_false];done)|(simp_all[];done)|(simp_all[];omega)|grind|(norm_cast at*;simp_all[];done)|(norm_cast at*;simp_all[];omega)))
theorem lineOf_len (u:U) (n:Nat):(lineOf u n).length<=20000:=by
 unfold lineOf
 split
 ·rename_i h
  obtain⟨a0,a7,ah,aw,al⟩:=alone_facts h.2
  have b1:=wordsT_row ah
  have b2:=wordsT_row aw
  have b3:=kindText_len u.kind
  unfold lineT
  simp only[List.length_append,List.length_replicate]
  have c1:(if u.kind=0 then []else 32::u.label).length<=10:=by split<;>simp;omega
  have c2:(if (0:Int)<u.head.length then 58::wordsT u.head else []).length<=6657:=by split<;>simp;omega
  have c3:(if (0:Int)<u.words.length then 32::124::wordsT u.words else []).length<=6658:=by split<;>simp;omega
  omega
 ·simp
theorem f79:∀(u:U) (n:Nat),u.Short->n+u.flat.length<=1000000->Pure G Tryz.prog 79 [.agg u.cs,.int .i64 n] (.lst 1 ((u.lines n).map srow)):=by
 refine U.ind λu ih n hs hn=>?_
 have hkl:=hs.1.kids
 have hlen:u.flat.length=1+(U.flats u.kids).length:=by rw[U.flat_eq,List.length_cons];omega
 have hwd:IntKind.i64.wrap ((n:Int)+1)=((n+1:Nat):Int):=by rw[wrap_i64 (by omega) (by omega)];omega
 refine Pure.w c79 λR hR=>?_
 unfold s79 r79
 rw[U.lines_eq]at hR
 (repeat' (first|(with_reducible (first|refine split_case (λh=>?_) (λh=>?_)|refine gd_case (λh=>?_) (λh=>?_)|refine pick_case (λh=>?_) (λh=>?_))<;>(try simp only[Da,Db,Dc,Dw,De,Df,Dg,Dh]at h))|(with_reducible refine And.intro (by omega) ?_)|(with_reducible refine CALL_pure (f136 G u n hs (by omega)) ?_)|(with_reducible refine CALL_pure (ih x hx.mem (n+1) (hs.kid hx.mem) (by have:=U.flats_mem hx.mem;omega)) ?_)|simp only[EVz,seval,↓reduceIte,EV6,EV7,hwd,hx.yes,hx.le0,hx.lt',hx.get,hx.row,hw]|simp only[EVz,seval,↓reduceIte,EV6,EV7,hwd,hn]|simp only[EVz,seval,↓reduceIte,EV6,EV7,hwd]|(with_reducible intro blk hblk;(try(have hnx:=hblk;simp only[EVK]at hnx;first|(have hne:=And.intro hnx hne)|(have hne:=hnx))))|(with_reducible refine both_case ?_ ?_)|(with_reducible refine same_case ?_)|(refine⟨[srow (lineOf u n)],rfl,(by simp[srow]),(by simp[srow]),?_⟩)|(refine W_list (ι:=Option Nat×List (List UInt8)) u.kids (λi r c=>lineOf u n::U.liness (n+1) u.kids=c.2++U.liness (n+1) r) (λi c=>[(1,.int .i64 n),(2,.ref u.cs),(5,.own c.1 9 1 (c.2.map srow)),(6,.int .i64 i)]) (λi c=>tokS c.1 9 c.2.length) (some blk,[lineOf u n]) rfl (Weak.rfl' _ _) (by omega) (λi x r c hok hx hw=>?_) (λc hok hn=>?_))|(exfalso;omega)))
 ·have h1:=congrArg List.length hok
  have h2:(U.liness (n+1) u.kids).length=(U.flats u.kids).length:=by
   have:=U.lines_len u n
   rw[U.lines_eq,U.flat_eq,List.length_cons,List.length_cons]at this
   omega
  simp only[List.length_cons,List.length_append,U.liness_cons]at h1
  refine app_lst (m':=(c.2++x.lines (n+1)).length) tok_get (by simp) (by simp) (by simp;omega) (λgn=>?_)
  exact LK_next hx (gn,c.2++x.lines (n+1)) (by rw[hok,U.liness_cons,List.append_assoc]) (by simp only[List.map_append];exact Weak.rfl' _ _)
 ·exact hR _ _ (Or.inl (Or.inr ⟨rfl,by rw[hok];simp[U.liness]⟩))
def linesOf (u:U):List (List UInt8):=if shapeOk u then u.lines 0 else []
def textT (u:U):List UInt8:=(u.lines 0).flatMap λl=>l++[10]
def textOf (u:U):List UInt8×Int:=if shapeOk u then (if (16384:Int)<(textT u).length then ([],6)else (textT u,0))else ([],1)
theorem lines_short (u:U):∀(n:Nat),∀l∈u.lines n,l.length<=20000:=by
 induction u using U.ind with
 |h u ih=>
  intro n
  rw[U.lines_eq]
  have key:∀us:List U,(∀k∈us,∀m,∀l∈k.lines m,l.length<=20000)->∀l∈U.liness (n+1) us,l.length<=20000:=by
   intro us
   induction us with
   |nil=>intro _ l hl;cases hl
   |cons a us iha=>
    intro h l hl
    rw[U.liness_cons]at hl
    rcases List.mem_append.1 hl with hl|hl
    ·exact h a (by simp) _ l hl
    ·exact iha (λk hk=>h k (by simp[hk])) l hl
  intro l hl
  rcases List.mem_cons.1 hl with rfl|hl
  ·exact lineOf_len u n
  ·exact key u.kids ih l hl
theorem f52 (u:U) (hs:u.Short):Pure G Tryz.prog 52 [.agg u.cs] (.lst 1 ((linesOf u).map srow)):=by
 have hc:=hs.1.2
 refine Pure.w c52 λR hR=>?_
 unfold s52 r52
 have hL:Pure G Tryz.prog 79 [.agg u.cs,.int .i64 0] (.lst 1 ((u.lines 0).map srow)):=f79 G u 0 hs (by omega)
 (repeat' (first|(with_reducible (first|refine split_case (λh=>?_) (λh=>?_)|refine gd_case (λh=>?_) (λh=>?_)|refine pick_case (λh=>?_) (λh=>?_))<;>(try simp only[Da,Db,Dc,Dw,De,Df,Dg,Dh]at h))|(with_reducible refine And.intro (by omega) ?_)|(with_reducible refine CALL_pure (hL) ?_)|(with_reducible refine CALL_pure (f51 G u hs) ?_)|simp only[EVz,seval,↓reduceIte,EV6,EV7]|(with_reducible intro blk hblk;(try(have hnx:=hblk;simp only[EVK]at hnx;first|(have hne:=And.intro hnx hne)|(have hne:=hnx))))|(with_reducible refine both_case ?_ ?_)|(with_reducible refine same_case ?_)|(refine⟨[],rfl,(by simp),rfl,?_⟩)|(exfalso;omega)))
 ·exact hR _ _ (Or.inl (Or.inr ⟨rfl,by rw[linesOf,h];rfl⟩))
 ·exact RET.eq hR (by rw[linesOf,h];rfl)
theorem f29 (u:U) (hs:u.Short):Pure G Tryz.prog 29 [.agg u.cs] (.tup [.str (textOf u).1,.int .i64 (textOf u).2]):=by
 have hc:=hs.1.2
 have hll:=U.lines_len u 0
 have hlS:=lines_short u 0
 have hL:=f52 G u hs
 refine Pure.w c29 λR hR=>?_
 unfold s29 r29
 by_cases hsh:shapeOk u=true
 ·have e1:linesOf u=u.lines 0:=if_pos hsh
  have e2:textOf u=if (16384:Int)<(textT u).length then ([],6)else (textT u,0):=if_pos hsh
  rw[e1]at hL
  rw[e2]at hR
  unfold textT at hR
  generalize u.lines 0=l at*
  (repeat' (first|(with_reducible (first|refine split_case (λh=>?_) (λh=>?_)|refine gd_case (λh=>?_) (λh=>?_)|refine pick_case (λh=>?_) (λh=>?_))<;>(try simp only[Da,Db,Dc,Dw,De,Df,Dg,Dh]at h))|(with_reducible refine And.intro (by omega) ?_)|(with_reducible refine CALL_pure (f51 G u hs) ?_)|(with_reducible refine CALL_pure (hL) ?_)|simp only[EVz,seval,↓reduceIte,EV6,EV7,hsh,List.length_append,List.length_cons,List.length_nil,hx.yes,hx.le0,hx.lt',hx.get,hx.row,hw]|simp only[EVz,seval,↓reduceIte,EV6,EV7,hsh,List.length_append,List.length_cons,List.length_nil,hn]|simp only[EVz,seval,↓reduceIte,EV6,EV7,hsh,List.length_append,List.length_cons,List.length_nil]|(with_reducible intro blk hblk;(try(have hnx:=hblk;simp only[EVK]at hnx;first|(have hne:=And.intro hnx hne)|(have hne:=hnx))))|(with_reducible refine both_case ?_ ?_)|(with_reducible refine same_case ?_)|(refine W_list (ι:=List UInt8) (l) (λi r c=>(l.flatMap λl=>l++[10])=c++(r.flatMap λl=>l++[10])/\c.length<=i*20001) (λi c=>[(4,.lst 1 (l.map srow)),(5,.str c),(6,.int .i64 i)]) (λ_ _=>[]) ([]) (by first|rfl|(simp;done)|(simp[*];done)|(simp;omega)|omega) (Weak.rfl' _ _) (by omega) (λi x r c hok hx hw=>?_) (λc hok hn=>?_)<;>(try((try have hxl:=hlS _ hx.mem);(try have hil:=hx.lt))))|(refine LK_next hx _ ?_ (Weak.rfl' _ _))|(refine LK_next hx _ ?_ (Weak.sub (SubN.nil _)))|(exfalso;omega)))
  ·rw[hok.1];exact⟨by simp,by omega⟩
  ·have e:l.flatMap (λl=>l++[10])=c:=by rw[hok.1];simp
   rw[e,if_pos (by omega)]at hR
   exact RET.eq hR rfl
  ·have e:l.flatMap (λl=>l++[10])=c:=by rw[hok.1];simp
   rw[e,if_neg (by omega)]at hR
   exact RET.eq hR rfl
 ·have e2:textOf u=([],1):=if_neg hsh
  have hsf:shapeOk u=false:=by simpa using hsh
  rw[e2]at hR
  (repeat' (first|(with_reducible (first|refine split_case (λh=>?_) (λh=>?_)|refine gd_case (λh=>?_) (λh=>?_)|refine pick_case (λh=>?_) (λh=>?_))<;>(try simp only[Da,Db,Dc,Dw,De,Df,Dg,Dh]at h))|(with_reducible refine And.intro (by omega) ?_)|(with_reducible refine CALL_pure (f51 G u hs) ?_)|simp only[EVz,seval,↓reduceIte,EV6,EV7,hsf]|(with_reducible intro blk hblk;(try(have hnx:=hblk;simp only[EVK]at hnx;first|(have hne:=And.intro hnx hne)|(have hne:=hnx))))|(with_reducible refine both_case ?_ ?_)|(with_reducible refine same_case ?_)|(exfalso;omega)))
  (all_goals(first|(exact RET.eq hR rfl)|rfl|(refine RET.eq hR ?_;(refine congrArg AV.bool (Bool.eq_iff_iff.2 ?_);simp only[EVB]at*;omega))|(refine RET.eq hR ?_;first|(simp only[hok,h,EVC,decide_true,decide_false];done)|(simp only[hok,EVC,decide_true,decide_false];done)|(simp only[hok,EVC,decide_true,decide_false];refine congrArg AV.bool (decide_eq_decide.2 ?_);omega)|(simp_all[];done)|(simp_all[];omega)|grind|(norm_cast at*;simp_all[];done)|(norm_cast at*;simp_all[];omega))|(refine hR _ _ (Or.inl (Or.inr ⟨rfl,?_⟩));simp[];done)|(refine hR _ _ (Or.inr ?_);simp[*,AVleL,AVle1,Itm.cs_eq,U.cs_eq,];done)|(rw[hok];simp only[h,EVC,decide_true,decide_false];done)|(rw[hok];simp only[EVC,decide_true,decide_false];done)|(simp_all[];done)|(simp_all[];omega)|grind|(norm_cast at*;simp_all[];done)|(norm_cast at*;simp_all[];omega)))
end
end
theorem eval_g {G:Glob} {i:Nat} {cs:List AV} (h:G.tab i=some cs):∀env,SOpd.eval G env (.g i)= .ref cs:=by intro env;simp only[SOpd.eval,h]
end Go.Av
