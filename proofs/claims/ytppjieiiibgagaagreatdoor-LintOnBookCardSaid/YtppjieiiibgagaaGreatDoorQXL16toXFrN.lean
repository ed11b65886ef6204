/-
  LINT, 16: lines by the reference.
-/
import Derived.Test.YtppjieiiibgagaaGreatDoorQXL13toXL15
import Derived.Test.YtppjieiiibgagaaGreatDoorCards
import Derived.Test.YtppjieiiibgagaaGreatDoorTie
import Derived.WalkKit
import Derived.ProofKit
import Derived.OpenShut
import Derived.Carry
import Derived.LaidSub
import Derived.Deep.DeepHandedRow
import Derived.Test.YtppjieiiibgagaaGreatDoorQXAv26toXGlob
import Derived.JoinedCond
import Derived.Deep.DeepWitnessRowRef
set_option linter.all false
namespace Go.Av
open Go Go.RowKit Go.Proofs List
section
def kindNames:List (List UInt8):=[[98,111,111,107],[112,97,114,116],[115,101,99,116,105,111,110],[112,97,114,97,103,114,97,112,104],[116,97,98,108,101],[114,111,119],[99,101,108,108],[110,111,116,101]]
def kindText (k:Int):List UInt8:=kindNames.getD k.toNat []
def escT (t:List UInt8):List UInt8:=if t.getD 0 0=124\/t.getD 0 0=92 then 92::t else t
def wordsT (l:List Wd):List UInt8:=l.flatMap λw=>32::escT w.text
def lineT (u:U) (n:Nat):List UInt8:=
 List.replicate (2*n) 32++(kindText u.kind++((if u.kind=0 then []else 32::u.label)++((if (0:Int)<u.head.length then 58::wordsT u.head else [])++(if (0:Int)<u.words.length then 32::124::wordsT u.words else []))))
def lineOf (u:U) (n:Nat):List UInt8:=if n<=8/\cD u=true then lineT u n else []
mutual
def U.lines:Nat->U->List (List UInt8)
 |n,⟨i,k,l,h,w,ks⟩=>lineOf ⟨i,k,l,h,w,ks⟩ n::U.liness (n+1) ks
def U.liness:Nat->List U->List (List UInt8)
 |_,[]=>[]
 |n,u::us=>U.lines n u++U.liness n us
end
def U.lines_eq (u:U) (n:Nat):u.lines n=lineOf u n::U.liness (n+1) u.kids:=by cases u;rw[U.lines]
def U.liness_cons (u:U) (us:List U) (n:Nat):U.liness n (u::us)=u.lines n++U.liness n us:=by rw[U.liness]
def U.lines_len:∀(u:U) (n:Nat),(u.lines n).length=u.flat.length:=by
 refine U.ind λu ih n=>?_
 rw[U.lines_eq,U.flat_eq]
 simp only[length_cons]
 congr 1
 have:∀us:List U,(∀k∈us,∀m,(k.lines m).length=k.flat.length)->(U.liness (n+1) us).length=(U.flats us).length:=by
  intro us
  induction us with
  |nil=>intro _;rfl
  |cons a us iha=>intro h;rw[U.liness_cons,U.flats,length_append,length_append,h a (by simp),iha λk hk=>h k (by simp[hk])]
 exact this _ ih
def row_word {l:List Wd} (h:ba l=true) {w:Wd} (hw:w∈l):0<w.text.length/\w.text.length<=24:=by
 unfold ba at h
 simp only[Bool.and_eq_true,decide_eq_true_eq,all_eq_true]at h
 have h1:=h.2 w hw
 unfold wdOk bj at h1
 simp only[Bool.and_eq_true,decide_eq_true_eq]at h1
 omega
def row_len {l:List Wd} (h:ba l=true):l.length<=256:=by
 unfold ba at h
 simp only[Bool.and_eq_true,decide_eq_true_eq,all_eq_true]at h
 omega
def escT_len (t:List UInt8):(escT t).length<=t.length+1:=by unfold escT;split<;>simp
def wordsT_len:∀{l:List Wd},(∀w∈l,0<w.text.length/\w.text.length<=24)->(wordsT l).length<=l.length*26
 |[],_=>by simp[wordsT]
 |w::l,h=>by
  have h1:=(h w (by simp)).2
  have h2:=wordsT_len (l:=l) λx hx=>h x (by simp[hx])
  have h3:=escT_len w.text
  unfold wordsT at*
  simp only[flatMap_cons,length_append,length_cons]
  omega
def kindText_len (k:Int):(kindText k).length<=9:=by
 unfold kindText
 have:∀n:Nat,(kindNames.getD n []).length<=9:=λn=>by
  match n with
  |0|1|2|3|4|5|6|7=>decide
  |n+8=>simp[kindNames]
 exact this _
def alone_facts {u:U} (h:cD u=true):0<=u.kind/\u.kind<=7/\ba u.head=true/\ba u.words=true/\u.label.length<=9:=by
 unfold cD at h
 split at h
 ·rename_i hk
  simp only[Bool.and_eq_true,decide_eq_true_eq]at h
  obtain⟨h1,h2,h3⟩:=h
  have e2:u.head=[]:=length_eq_zero_iff.1 (by omega)
  have e3:u.words=[]:=length_eq_zero_iff.1 (by omega)
  rw[e2,e3,h1]
  exact⟨by omega,by omega,by decide,by decide,by simp⟩
 ·simp only[Bool.and_eq_true,decide_eq_true_eq]at h
  obtain⟨h1,h2,h3,h4,h5⟩:=h
  refine⟨by omega,h2,h4,h5,?_⟩
  unfold bK at h3
  simp only[Bool.and_eq_true,decide_eq_true_eq]at h3
  omega
def kind_row {k:Int} (h0:0<=k) (h7:k<=7):(kindNames.map srow).getD k.toNat []=[.str (kindText k)]:=by
 have h:k=0\/k=1\/k=2\/k=3\/k=4\/k=5\/k=6\/k=7:=by omega
 rcases h with rfl|rfl|rfl|rfl|rfl|rfl|rfl|rfl<;>rfl
def kind_lt {k:Int} (h7:k<=7):k<(kindNames.length:Int):=by show k<8;omega
def wordsT_row {l:List Wd} (h:ba l=true):(wordsT l).length<=6656:=by
 have:=wordsT_len λw hw=>row_word h hw
 have:=row_len h
 omega
section
variable (G:Glob)
def f361:Pure G Tryz.prog 361 [] (.lst 1 (kindNames.map srow)):=by
 refine Pure.w c361 λR hR=>?_
 unfold s361 r361
 simp only[EV1,EV2,EV3,EV4,EV5,Option.map_some,decide_true,decide_false,seval,eq_self]
 intro b hb
 exact⟨kindNames.map srow,rfl,by simp[srow],rfl,hR _ _ (Or.inl (Or.inr ⟨rfl,rfl⟩))⟩
def f362 (l:List Wd) (hr:ba l=true):Pure G Tryz.prog 362 [.lst 4 (l.map Wd.cs)] (.str (wordsT l)):=by
 have hl:=row_len hr
 refine Pure.w c362 λR hR=>?_
 unfold s362 r362
 (repeat' (first|(with_reducible (first|refine ae (λh=>?_) λh=>?_|refine af (λh=>?_) λh=>?_|refine ax (λh=>?_) λh=>?_)<;>(try simp only[DZ]at h))|(with_reducible refine AI (by omega) ?_)|simp only[EV,seval,length_append,length_cons,length_nil,hx.yes,hx.le0,hx.lt',hx.get,hx.row,hw]|simp only[EV,seval,length_append,length_cons,length_nil,hn]|simp only[EV,seval,length_append,length_cons,length_nil]|(with_reducible intro blk hblk;(try(have hnx:=hblk;simp only[EVK]at hnx;first|(have hne:=AI hnx hne)|(have hne:=hnx))))|(with_reducible first|refine ag ?_ ?_|refine ai ?_)|(refine ap (ι:=List UInt8) (l) (λi r c=>wordsT l=c++wordsT r/\c.length<=i*26) (λi c=>[(0,.lst 4 (l.map Wd.cs)),(3,.str c),(4,.i i)]) (λ_ _=>[]) ([]) (by first|rfl|(simp;done)|(simp[*];done)|(simp;omega)|omega) (dT _ _) (by omega) (λi x r c hok hx hw=>?_) (λc hok hn=>?_)<;>(try(obtain⟨hp,hp2⟩:=row_word hr hx.mem;have hil:=hx.lt)))|(refine ak hx _ ?_ (dT _ _))|(refine ak hx _ ?_ (Weak.sub (SubN.nil _)))|(exfalso;omega)))
 ·rw[hok.1]
  have e:escT x.text=92::x.text:=by unfold escT;rw[if_pos];right;exact UInt8.toNat_inj.1 (by show _=92;omega)
  exact⟨by simp[wordsT,e],by omega⟩
 ·rename_i h2
  rw[hok.1]
  have e:escT x.text=x.text:=by
   unfold escT
   rw[if_neg]
   rintro(h3|h3)
   ·exact h2 (by rw[h3];rfl)
   ·exact h (by rw[h3];rfl)
  exact⟨by simp[wordsT,e],by omega⟩
 ·rw[hok.1]
  have e:escT x.text=92::x.text:=by unfold escT;rw[if_pos];left;exact UInt8.toNat_inj.1 (by show _=124;omega)
  exact⟨by simp[wordsT,e],by omega⟩
 ·exact RET.eq hR (by rw[hok.1];simp[wordsT])
def f327 (u:U) (n:Nat) (hs:u.Short) (hn:n<=1000000):Pure G Tryz.prog 327 [.agg u.cs,.i n] (.str (lineOf u n)):=by
 have h0:=hs.2 u u.flat_self
 obtain⟨l,hl⟩:∃l:List Unit,l.length=n:=⟨List.replicate n (),by simp⟩
 subst hl
 refine Pure.w c327 λR hR=>?_
 unfold s327 r327
 have hal:=f326 G u h0.1 h0.2.1 h0.2.2.1 h0.2.2.2.1 h0.2.2.2.2
 by_cases ha:cD u=true
 ·obtain⟨a0,a7,ah,aw,al⟩:=alone_facts ha
  have b1:=wordsT_row ah
  have b2:=wordsT_row aw
  have b3:=kindText_len u.kind
  have hlt:=kind_lt a7
  rw[ha]at hal
  have ea:lineOf u l.length=if l.length<=8 then lineT u l.length else []:=by unfold lineOf;simp[ha]
  rw[ea]at hR
  (repeat' (first|(with_reducible (first|refine ae (λh=>?_) λh=>?_|refine af (λh=>?_) λh=>?_|refine ax (λh=>?_) λh=>?_)<;>(try simp only[DZ]at h))|(with_reducible first|refine AI (by omega) ?_|refine ab hal ?_|refine ab (f361 G) ?_|refine ab (f362 G u.head ah) ?_|refine ab (f362 G u.words aw) ?_)|simp only[EV,seval,length_append,length_cons,length_nil,kind_row a0 a7,hx.yes,hx.le0,hx.lt',hx.get,hx.row,hw]|simp only[EV,seval,length_append,length_cons,length_nil,kind_row a0 a7,hn]|simp only[EV,seval,length_append,length_cons,length_nil,kind_row a0 a7]|(with_reducible intro blk hblk;(try(have hnx:=hblk;simp only[EVK]at hnx;first|(have hne:=AI hnx hne)|(have hne:=hnx))))|(with_reducible first|refine ag ?_ ?_|refine ai ?_)|(refine ap (ι:=List UInt8) (l) (λi r c=>c=List.replicate (2*i) 32) (λi c=>[(1,.i l.length),(2,.ref u.cs),(5,.str c),(6,.i i)]) (λ_ _=>[]) ([]) (by first|rfl|(simp;done)|(simp[*];done)|(simp;omega)|omega) (dT _ _) (by omega) (λi x r c hok hx hw=>?_) (λc hok hn=>?_)<;>(try((try have hil:=hx.lt);have hcl:=congrArg List.length hok;rw[length_replicate]at hcl)))|(refine ak hx _ ?_ (dT _ _))|(refine ak hx _ ?_ (Weak.sub (SubN.nil _)))|(exfalso;omega)))
  ·rw[hok];simp[Nat.mul_add,replicate_succ',append_assoc]
  all_goals(refine RET.eq hR (congrArg AV.str ?_);(try unfold lineT);(repeat first|rw[if_pos (by omega)]|rw[if_neg (by omega)]);(try rw[hok]);(try simp))
 ·have ha2:cD u=false:=by simpa using ha
  rw[ha2]at hal
  have ea:lineOf u l.length=[]:=by unfold lineOf;simp[ha2]
  rw[ea]at hR
  (repeat' (first|(with_reducible (first|refine ae (λh=>?_) λh=>?_|refine af (λh=>?_) λh=>?_|refine ax (λh=>?_) λh=>?_)<;>(try simp only[DZ]at h))|(with_reducible first|refine AI (by omega) ?_|refine ab hal ?_)|simp only[EV,seval]|(with_reducible intro blk hblk;(try(have hnx:=hblk;simp only[EVK]at hnx;first|(have hne:=AI hnx hne)|(have hne:=hnx))))|(with_reducible first|refine ag ?_ ?_|refine ai ?_)|(exfalso;omega)))
  (all_goals(first|(exact RET.eq hR rfl)|rfl|(refine RET.eq hR ?_;(refine congrArg AV.bool (Bool.eq_iff_iff.2 ?_);simp only[EVB]at*;omega))|(refine RET.eq hR ?_;first|(simp only[hok,h,EVC,decide_true,decide_false];done)|(simp only[hok,EVC,decide_true,decide_false];done)|(simp only[hok,EVC,decide_true,decide_false];refine congrArg AV.bool (decide_eq_decide.2 ?_);omega)|(simp_all[];done)|(simp_all[];omega)|grind|(norm_cast at*;simp_all[];done)|(norm_cast at*;simp_all[];omega))|(refine hR _ _ (Or.inl (Or.inr ⟨rfl,?_⟩));simp[];done)|(refine hR _ _ (Or.inr ?_);simp[*,aW,aH,eH,hH,];done)|(rw[hok];simp only[h,EVC,decide_true,decide_false];done)|(rw[hok];simp only[EVC,decide_true,decide_false];done)|(simp_all[];done)|(simp_all[];omega)|grind|(norm_cast at*;simp_all[];done)|(norm_cast at*;simp_all[];omega)))
def lineOf_len (u:U) (n:Nat):(lineOf u n).length<=20000:=by
 unfold lineOf
 split
 ·rename_i h
  obtain⟨a0,a7,ah,aw,al⟩:=alone_facts h.2
  have b1:=wordsT_row ah
  have b2:=wordsT_row aw
  have b3:=kindText_len u.kind
  unfold lineT
  simp only[length_append,length_replicate]
  have c1:(if u.kind=0 then []else 32::u.label).length<=10:=by split<;>simp;omega
  have c2:(if (0:Int)<u.head.length then 58::wordsT u.head else []).length<=6657:=by split<;>simp;omega
  have c3:(if (0:Int)<u.words.length then 32::124::wordsT u.words else []).length<=6658:=by split<;>simp;omega
  omega
 ·simp
def f259:∀(u:U) (n:Nat),u.Short->n+u.flat.length<=1000000->Pure G Tryz.prog 259 [.agg u.cs,.i n] (.lst 1 ((u.lines n).map srow)):=by
 refine U.ind λu ih n hs hn=>?_
 have hkl:=hs.1.kids
 have hlen:u.flat.length=1+(U.flats u.kids).length:=by rw[U.flat_eq,length_cons];omega
 have hwd:IntKind.i64.wrap ((n:Int)+1)=((n+1:Nat):Int):=by rw[av (by omega) (by omega)];omega
 refine Pure.w c259 λR hR=>?_
 unfold s259 r259
 rw[U.lines_eq]at hR
 (repeat' (first|(with_reducible (first|refine ae (λh=>?_) λh=>?_|refine af (λh=>?_) λh=>?_|refine ax (λh=>?_) λh=>?_)<;>(try simp only[DZ]at h))|(with_reducible first|refine AI (by omega) ?_|refine ab (f327 G u n hs (by omega)) ?_|refine ab (ih x hx.mem (n+1) (hs.kid hx.mem) (by have:=sH hx.mem;omega)) ?_)|simp only[EV,seval,hwd,hx.yes,hx.le0,hx.lt',hx.get,hx.row,hw]|simp only[EV,seval,hwd,hn]|simp only[EV,seval,hwd]|(with_reducible intro blk hblk;(try(have hnx:=hblk;simp only[EVK]at hnx;first|(have hne:=AI hnx hne)|(have hne:=hnx))))|(with_reducible first|refine ag ?_ ?_|refine ai ?_)|(refine⟨[srow (lineOf u n)],rfl,(by simp[srow]),(by simp[srow]),?_⟩)|(refine ap (ι:=Option Nat×List (List UInt8)) u.kids (λi r c=>lineOf u n::U.liness (n+1) u.kids=c.2++U.liness (n+1) r) (λi c=>[(1,.i n),(2,.ref u.cs),(5,.own c.1 9 1 (c.2.map srow)),(6,.i i)]) (λi c=>tokS c.1 9 c.2.length) (some blk,[lineOf u n]) rfl (dT _ _) (by omega) (λi x r c hok hx hw=>?_) (λc hok hn=>?_))|(exfalso;omega)))
 ·have h1:=congrArg List.length hok
  have h2:(U.liness (n+1) u.kids).length=(U.flats u.kids).length:=by
   have:=U.lines_len u n
   rw[U.lines_eq,U.flat_eq,length_cons,length_cons]at this
   omega
  simp only[length_cons,length_append,U.liness_cons]at h1
  refine cx (m':=(c.2++x.lines (n+1)).length) aS (by simp) (by simp) (by simp;omega) (λgn=>?_)
  exact ak hx (gn,c.2++x.lines (n+1)) (by rw[hok,U.liness_cons,append_assoc]) (by simp only[map_append];exact dT _ _)
 ·exact hR _ _ (Or.inl (Or.inr ⟨rfl,by rw[hok];simp[U.liness]⟩))
def linesOf (u:U):List (List UInt8):=if dC u then u.lines 0 else []
def textT (u:U):List UInt8:=(u.lines 0).flatMap λl=>l++[10]
def textOf (u:U):List UInt8×Int:=if dC u then (if (16384:Int)<(textT u).length then ([],6)else (textT u,0))else ([],1)
def lines_short (u:U):∀(n:Nat),∀l∈u.lines n,l.length<=20000:=by
 induction u using U.ind with
 |h u ih=>
  intro n
  rw[U.lines_eq]
  have key:∀us:List U,(∀k∈us,∀m,∀l∈k.lines m,l.length<=20000)->∀l∈U.liness (n+1) us,l.length<=20000:=by
   intro us
   induction us with
   |nil=>intro _ l hl;cases hl
   |cons a us iha=>
    intro h l hl
    rw[U.liness_cons]at hl
    rcases mem_append.1 hl with hl|hl
    ·exact h a (by simp) _ l hl
    ·exact iha (λk hk=>h k (by simp[hk])) l hl
  intro l hl
  rcases mem_cons.1 hl with rfl|hl
  ·exact lineOf_len u n
  ·exact key u.kids ih l hl
def f138 (u:U) (hs:u.Short):Pure G Tryz.prog 138 [.agg u.cs] (.lst 1 ((linesOf u).map srow)):=by
 have hc:=hs.1.2
 refine Pure.w c138 λR hR=>?_
 unfold s138 r138
 have hL:Pure G Tryz.prog 259 [.agg u.cs,.i 0] (.lst 1 ((u.lines 0).map srow)):=f259 G u 0 hs (by omega)
 (repeat' (first|(with_reducible (first|refine ae (λh=>?_) λh=>?_|refine af (λh=>?_) λh=>?_|refine ax (λh=>?_) λh=>?_)<;>(try simp only[DZ]at h))|(with_reducible first|refine AI (by omega) ?_|refine ab hL ?_|refine ab (f137 G u hs) ?_)|simp only[EV,seval]|(with_reducible intro blk hblk;(try(have hnx:=hblk;simp only[EVK]at hnx;first|(have hne:=AI hnx hne)|(have hne:=hnx))))|(with_reducible first|refine ag ?_ ?_|refine ai ?_)|(refine⟨[],rfl,(by simp),rfl,?_⟩)|(exfalso;omega)))
 ·exact hR _ _ (Or.inl (Or.inr ⟨rfl,by rw[linesOf,h];rfl⟩))
 ·exact RET.eq hR (by rw[linesOf,h];rfl)
def f76 (u:U) (hs:u.Short):Pure G Tryz.prog 76 [.agg u.cs] (.tup [.str (textOf u).1,.i (textOf u).2]):=by
 have hc:=hs.1.2
 have hll:=U.lines_len u 0
 have hlS:=lines_short u 0
 have hL:=f138 G u hs
 refine Pure.w c76 λR hR=>?_
 unfold s76 r76
 by_cases hsh:dC u=true
 ·have e1:linesOf u=u.lines 0:=if_pos hsh
  have e2:textOf u=if (16384:Int)<(textT u).length then ([],6)else (textT u,0):=if_pos hsh
  rw[e1]at hL
  rw[e2]at hR
  unfold textT at hR
  generalize u.lines 0=l at*
  (repeat' (first|(with_reducible (first|refine ae (λh=>?_) λh=>?_|refine af (λh=>?_) λh=>?_|refine ax (λh=>?_) λh=>?_)<;>(try simp only[DZ]at h))|(with_reducible first|refine AI (by omega) ?_|refine ab (f137 G u hs) ?_|refine ab hL ?_)|simp only[EV,seval,hsh,length_append,length_cons,length_nil,hx.yes,hx.le0,hx.lt',hx.get,hx.row,hw]|simp only[EV,seval,hsh,length_append,length_cons,length_nil,hn]|simp only[EV,seval,hsh,length_append,length_cons,length_nil]|(with_reducible intro blk hblk;(try(have hnx:=hblk;simp only[EVK]at hnx;first|(have hne:=AI hnx hne)|(have hne:=hnx))))|(with_reducible first|refine ag ?_ ?_|refine ai ?_)|(refine ap (ι:=List UInt8) (l) (λi r c=>(l.flatMap λl=>l++[10])=c++(r.flatMap λl=>l++[10])/\c.length<=i*20001) (λi c=>[(4,.lst 1 (l.map srow)),(5,.str c),(6,.i i)]) (λ_ _=>[]) ([]) (by first|rfl|(simp;done)|(simp[*];done)|(simp;omega)|omega) (dT _ _) (by omega) (λi x r c hok hx hw=>?_) (λc hok hn=>?_)<;>(try((try have hxl:=hlS _ hx.mem);(try have hil:=hx.lt))))|(refine ak hx _ ?_ (dT _ _))|(refine ak hx _ ?_ (Weak.sub (SubN.nil _)))|(exfalso;omega)))
  ·rw[hok.1];exact⟨by simp,by omega⟩
  ·have e:l.flatMap (λl=>l++[10])=c:=by rw[hok.1];simp
   rw[e,if_pos (by omega)]at hR
   exact RET.eq hR rfl
  ·have e:l.flatMap (λl=>l++[10])=c:=by rw[hok.1];simp
   rw[e,if_neg (by omega)]at hR
   exact RET.eq hR rfl
 ·have e2:textOf u=([],1):=if_neg hsh
  have hsf:dC u=false:=by simpa using hsh
  rw[e2]at hR
  (repeat' (first|(with_reducible (first|refine ae (λh=>?_) λh=>?_|refine af (λh=>?_) λh=>?_|refine ax (λh=>?_) λh=>?_)<;>(try simp only[DZ]at h))|(with_reducible first|refine AI (by omega) ?_|refine ab (f137 G u hs) ?_)|simp only[EV,seval,hsf]|(with_reducible intro blk hblk;(try(have hnx:=hblk;simp only[EVK]at hnx;first|(have hne:=AI hnx hne)|(have hne:=hnx))))|(with_reducible first|refine ag ?_ ?_|refine ai ?_)|(exfalso;omega)))
  (all_goals(first|(exact RET.eq hR rfl)|rfl|(refine RET.eq hR ?_;(refine congrArg AV.bool (Bool.eq_iff_iff.2 ?_);simp only[EVB]at*;omega))|(refine RET.eq hR ?_;first|(simp only[hok,h,EVC,decide_true,decide_false];done)|(simp only[hok,EVC,decide_true,decide_false];done)|(simp only[hok,EVC,decide_true,decide_false];refine congrArg AV.bool (decide_eq_decide.2 ?_);omega)|(simp_all[];done)|(simp_all[];omega)|grind|(norm_cast at*;simp_all[];done)|(norm_cast at*;simp_all[];omega))|(refine hR _ _ (Or.inl (Or.inr ⟨rfl,?_⟩));simp[];done)|(refine hR _ _ (Or.inr ?_);simp[*,aW,aH,eH,hH,];done)|(rw[hok];simp only[h,EVC,decide_true,decide_false];done)|(rw[hok];simp only[EVC,decide_true,decide_false];done)|(simp_all[];done)|(simp_all[];omega)|grind|(norm_cast at*;simp_all[];done)|(norm_cast at*;simp_all[];omega)))
end
end
structure GOk (G:Glob):Prop where
 names:G.tab 4=some (kindNames.map AV.str)
 below:G.tab 2=some [.lst 1 (([1,2]:List Int).map irow),.lst 1 (([2]:List Int).map irow),.lst 1 (([3,4,7]:List Int).map irow),.lst 1 (([3,4,7]:List Int).map irow),.lst 1 (([5]:List Int).map irow),.lst 1 (([6]:List Int).map irow),.nil,.nil]
 order:G.tab 1=some [.sc (.func (.func 438) #[] #[]),.sc (.func (.func 439) #[] #[])]
def eval_g {G:Glob} {i:Nat} {cs:List AV} (h:G.tab i=some cs):∀env,SOpd.eval G env (.g i)= .ref cs:=by intro env;simp only[SOpd.eval,h]
def lt8 {k:Int} (h0:0<=k) (h7:k<=7):k=0\/k=1\/k=2\/k=3\/k=4\/k=5\/k=6\/k=7:=by omega
section
variable (G:Glob) (hG:GOk G)
include hG
def f374 (k:Int):Pure G Tryz.prog 374 [.i k] (.str (if 0<=k/\k<=7 then kindText k else [])):=by
 have hg:=eval_g hG.names
 refine Pure.w c374 λR hR=>?_
 unfold s374 r374
 by_cases hk:0<=k/\k<=7
 ·rw[if_pos hk]at hR
  rcases lt8 hk.1 hk.2 with rfl|rfl|rfl|rfl|rfl|rfl|rfl|rfl<;>((repeat' (simp only[EV,seval,hg,kindNames,List.map,Int.toNat,List.drop,List.headD,List.length]));exact RET.eq hR rfl)
 ·rw[if_neg hk]at hR
  (repeat' (first|(with_reducible (first|refine ae (λh=>?_) λh=>?_|refine af (λh=>?_) λh=>?_)<;>(try simp only[DZ]at h))|(with_reducible refine AI (by omega) ?_)|simp only[EV,seval]|(exfalso;omega)))
  (all_goals((exact RET.eq hR rfl)))
def f156 (p k:Int):Pure G Tryz.prog 156 [.i p,.i k] (.bool (nests p k)):=by
 have hg:=eval_g hG.below
 refine Pure.w c156 λR hR=>?_
 unfold s156 r156
 by_cases hk:0<=p/\p<=7
 ·rcases lt8 hk.1 hk.2 with rfl|rfl|rfl|rfl|rfl|rfl|rfl|rfl
  ·have hc:=f265 G [1,2] k (by decide);simp only[List.map]at hc
   (repeat' (first|(with_reducible refine ab hc ?_)|simp only[EV,seval,hg,List.drop,List.headD,List.length]))
   refine RET.eq hR ?_;simp[nests]
  ·have hc:=f265 G [2] k (by decide);simp only[List.map]at hc
   (repeat' (first|(with_reducible refine ab hc ?_)|simp only[EV,seval,hg,List.drop,List.headD,List.length,Int.toNat]))
   refine RET.eq hR ?_;simp[nests]
  ·have hc:=f265 G [3,4,7] k (by decide);simp only[List.map]at hc
   (repeat' (first|(with_reducible refine ab hc ?_)|simp only[EV,seval,hg,List.drop,List.headD,List.length,Int.toNat]))
   refine RET.eq hR ?_;simp[nests,Bool.or_assoc]
  ·have hc:=f265 G [3,4,7] k (by decide);simp only[List.map]at hc
   (repeat' (first|(with_reducible refine ab hc ?_)|simp only[EV,seval,hg,List.drop,List.headD,List.length,Int.toNat]))
   refine RET.eq hR ?_;simp[nests,Bool.or_assoc]
  ·have hc:=f265 G [5] k (by decide);simp only[List.map]at hc
   (repeat' (first|(with_reducible refine ab hc ?_)|simp only[EV,seval,hg,List.drop,List.headD,List.length,Int.toNat]))
   refine RET.eq hR ?_;simp[nests]
  ·have hc:=f265 G [6] k (by decide);simp only[List.map]at hc
   (repeat' (first|(with_reducible refine ab hc ?_)|simp only[EV,seval,hg,List.drop,List.headD,List.length,Int.toNat]))
   refine RET.eq hR ?_;simp[nests]
  all_goals
   have hc:=f265 G [] k (by decide);simp only[List.map]at hc
   (repeat' (first|simp only[EV,seval,hg,List.drop,List.headD,List.length,Int.toNat]|(refine aP hc ⟨.inl (.inr rfl),⟨.inl (.inl rfl),trivial⟩⟩ ?_)))
   refine RET.eq hR ?_;simp[nests]
 ·have e:nests p k=false:=by unfold nests;rw[if_neg (by omega),if_neg (by omega),if_neg (by omega),if_neg (by omega),if_neg (by omega)]
  rw[e]at hR
  (repeat' (first|(with_reducible (refine af (λh=>?_) λh=>?_)<;>(try simp only[DZ]at h))|(with_reducible refine AI (by omega) ?_)|simp only[EV,seval]|(exfalso;omega)))
  (all_goals((exact RET.eq hR rfl)))
end
end Go.Av
section
namespace Go.Av
open Go Go.RowKit Go.Proofs List
def calls_of {P:Program} {G:Glob} {k:FuncId} {args:List AV} {r:AV} (h:Pure G P k args r) {W:World} (hG:G.holds [] W) {vs:Array Value} (hA:RepL [] W args vs.toList):
  Calls P k vs W λe W'=>∃v,e= .returned v/\Rep [] W' r v/\Below W.heap.size W W':=by
 have hS:Sat G ([]++[]) W:=⟨by simp[Store.keys],λb x hx=>by simp at hx,hG⟩
 refine(h.2 [] W vs hS hA).mono ?_
 rintro e W' ⟨v,r',σ',rfl,⟨rfl,rfl⟩,_,ev,hr⟩
 exact⟨v,rfl,hr,ev.os,ev.tape,ev.output,ev.size,λk hk=>(ev.block k hk (by simp[Store.keys])).1⟩
def tab_of {P:Program} {w:World} {nm:String} {d:DataW Unit} {g:Nat} {t:TypeId} {avs:List AV} (n:Nat) (hr:Go.Lib.VarReads P w nm d) (hg:P.globalNamed nm=some g) (ht:(P.globals[g]?).map (·.type)=some t) (ha:avD P n t d=some avs):
  RepAt [] w ⟨g,0,none⟩ 0 avs:=by
 obtain⟨g',t',cs,fuel,p,h1,h2,h3,h4⟩:=hr
 obtain rfl:=Option.some.inj (hg.symm.trans h1)
 obtain rfl:=Option.some.inj (ht.symm.trans h2)
 exact nE hg h3 (oa n t d avs ha fuel cs.toList p h4)
def tabNames:List AV:=kindNames.map AV.str
def tabBelow:List AV:=[.lst 1 (([1,2]:List Int).map irow),.lst 1 (([2]:List Int).map irow),.lst 1 (([3,4,7]:List Int).map irow),.lst 1 (([3,4,7]:List Int).map irow),.lst 1 (([5]:List Int).map irow),.lst 1 (([6]:List Int).map irow),.nil,.nil]
def tabOrder:List AV:=[.sc (.func (.func 438) #[] #[]),.sc (.func (.func 439) #[] #[])]
def GL:Glob:=globOf [(4,tabNames),(2,tabBelow),(1,tabOrder)]
end Go.Av
namespace Go.Proofs.YtppjieiiibgagaaGreatDoor
open Go.ChangeShapes Go.WideShapes Go.ChangeAt Go.RowKit
theorem own:ownKnob Tryz.prog.godebug=none:=by kernel_rfl
def litV:DataW Unit->Value
 | .lit (.int k n)=>.int k n
 |_=>.nilFunc
def litsV:DataW Unit->List Value
 | .agg ds=>ds.map litV
 |_=>[]
theorem gNames:Tryz.prog.globalNamed "pandect/unit.names" =some 4:=by kernel_rfl
theorem gBelow:Tryz.prog.globalNamed "pandect/unit.below" =some 2:=by kernel_rfl
theorem gOrder:Tryz.prog.globalNamed "pandect/syntax.order" =some 1:=by kernel_rfl
theorem tOrder:(Tryz.prog.globals[1]?).map (·.type)=some 170:=by kernel_rfl
theorem has_fn:((List.range Tryz.prog.funcs.size).filter λf=>(Tryz.prog.funcs[f]?).any (·.name.toUTF8.data.toList==112::[97,110,100,101,99,116,47,115,121,110,116,97,120,46,111,114,100,101,114,36,49]))=[438]:=by kernel_rfl
theorem may_fn:((List.range Tryz.prog.funcs.size).filter λf=>(Tryz.prog.funcs[f]?).any (·.name.toUTF8.data.toList==112::[97,110,100,101,99,116,47,115,121,110,116,97,120,46,111,114,100,101,114,36,50]))=[439]:=by kernel_rfl
theorem cells83:Tryz.prog.cellsOf 121=1:=by kernel_rfl
theorem cells35:Tryz.prog.cellsOf 76=1:=by kernel_rfl
theorem order_of {W:World} (h:funcsAt Tryz.prog W "pandect/syntax.order" (.agg [.iface "func" (.lit (.string [112,97,110,100,101,99,116,47,115,121,110,116,97,120,46,111,114,100,101,114,36,49])),.iface "func" (.lit (.string [112,97,110,100,101,99,116,47,115,121,110,116,97,120,46,111,114,100,101,114,36,50]))])):
  Go.Av.RepAt [] W ⟨1,0,none⟩ 0 Go.Av.tabOrder:=by
 obtain⟨g,t,cs,fuel,p,hg,ht,hv,hd⟩:=h
 obtain rfl:=Option.some.inj (gOrder.symm.trans hg)
 obtain rfl:=Option.some.inj (tOrder.symm.trans ht)
 obtain⟨xs,n,hn,hx,hl,hxl,hxs⟩:=DataW.trod_struct Tryz.underlying170 hd
 have hl2:cs.toList.length=2:=hl.trans (by kernel_rfl)
 obtain⟨u,v,huv⟩:∃u v,cs.toList=[u,v]:=by
  match hcs:cs.toList,hl2 with
  |[u,v],_=>exact⟨u,v,rfl⟩
 have h0:DataW.trod (funcToken Tryz.prog) Tryz.prog W 0 (λ_=>true) true n 121 ((cs.toList.drop 0).take (Tryz.prog.cellsOf 121))=xs[0]? :=hxs 0 _ rfl
 have h1:DataW.trod (funcToken Tryz.prog) Tryz.prog W 0 (λ_=>true) true n 76 ((cs.toList.drop 1).take (Tryz.prog.cellsOf 76))=xs[1]? :=hxs 1 _ rfl
 have hm:=congrArg Prod.fst hx
 rw[huv]at h0 h1
 simp only[cells83,cells35,List.drop_zero,List.take_succ_cons,List.take_zero,List.drop_succ_cons]at h0 h1
 obtain⟨x0,x1,rfl⟩:∃x0 x1,xs=[x0,x1]:=by
  match xs,hxl with
  |[x0,x1],_=>exact⟨x0,x1,rfl⟩
 simp only[List.map_cons,List.map_nil,DataW.funcsOut,DataW.funcsOutAll,DataW.agg.injEq,List.cons.injEq,and_true]at hm
 obtain⟨e0,e1⟩:=hm
 have hu:=func_of_trod (q:=x0.2) Tryz.underlying121 has_fn (by rw[if_pos (beq_self_eq_true _)]at e0;rw[e0];exact h0)
 have hw:=func_of_trod (q:=x1.2) Tryz.underlying76 may_fn (by rw[if_pos (beq_self_eq_true _)]at e1;rw[e1];exact h1)
 subst hu hw
 refine Go.Av.nE gOrder hv ⟨?_,?_⟩
 ·rw[huv]
  simp only[Go.Av.tabOrder,Go.Av.RepL,Go.Av.Rep]
  exact⟨_,_,rfl,rfl,_,_,rfl,rfl,rfl⟩
 ·rw[huv]
  simp[Value.oneCell']
noncomputable def tNamesT:TypeId:=((Tryz.prog.globals[4]?).map (·.type)).getD 0
theorem tNames:(Tryz.prog.globals[4]?).map (·.type)=some tNamesT:=by kernel_rfl
theorem tNamesD:Go.Av.avD Tryz.prog 6 tNamesT (Rows.laid_pandect_unit_names (H:=Unit))=some Go.Av.tabNames:=by kernel_rfl
noncomputable def tBelowT:TypeId:=((Tryz.prog.globals[2]?).map (·.type)).getD 0
theorem tBelow:(Tryz.prog.globals[2]?).map (·.type)=some tBelowT:=by kernel_rfl
theorem tBelowD:Go.Av.avD Tryz.prog 6 tBelowT (Rows.laid_pandect_unit_below (H:=Unit))=some Go.Av.tabBelow:=by kernel_rfl
theorem glob_holds {L:List (String×DataW Unit)} {W:World} (h:laidMetH Tryz.prog L W)
  (h1:("pandect/unit.names",Rows.laid_pandect_unit_names (H:=Unit))∈L.filter λx=>x.2.handleName?.isNone)
  (h2:("pandect/unit.below",Rows.laid_pandect_unit_below (H:=Unit))∈L.filter λx=>x.2.handleName?.isNone)
  (h3:("pandect/syntax.order",Rows.laid_pandect_syntax_order (H:=Unit))∈L):Go.Av.GL.holds [] W:=by
 obtain⟨hm,_⟩:=laidMetH_iff.1 h
 intro p hp
 simp only[List.mem_cons,List.not_mem_nil,or_false]at hp
 rcases hp with rfl|rfl|rfl
 ·exact Go.Av.tab_of 6 (Go.Lib.laidMet.reads hm h1) gNames tNames tNamesD
 ·exact Go.Av.tab_of 6 (Go.Lib.laidMet.reads hm h2) gBelow tBelow tBelowD
 ·exact order_of (laidMetH.funcs h h3)
noncomputable def laidWorld (os:Os):World:=
 let w0:=World.doorLaid Tryz.prog 600 os
 {w0 with heap:=w0.heap.modify 5 (λ
   | .cells _ t frozen=>.cells (litsV Rows.laid_unicode_utf8_first).toArray t frozen
   |o=>o)}
end Go.Proofs.YtppjieiiibgagaaGreatDoor
end
namespace Go.Proofs.YtppjieiiibgagaaGreatDoor
open Go.ChangeShapes Go.WideShapes Go.ChangeAt Go.RowKit
section
theorem and_mk {a b:Bool} (ha:a=true) (hb:b=true):(a&&b)=true:=by rw[ha,hb];rfl
theorem cellsU:Tryz.prog.cellsOf 27=8:=by kernel_rfl
theorem cellsA:Tryz.prog.cellsOf 49=7:=by kernel_rfl
set_option maxRecDepth 100000
theorem varsOk (os:Os) (args:Array Value):((laidWorld os).forCall (λ_ _=>0) ⟨#[],args,[]⟩).variablesRefB Tryz.checked.prog=true:=by kernel_rfl
def RestOk (C:Checked) (w0:World) (args:Array Value):Prop:=((w0.forCall (λ_ _=>0) ⟨#[],args,[]⟩).heap.toList.drop C.prog.globals.size).take ((begin C.prog (λ_ _=>0) default).world.heap.size-C.prog.globals.size)=
   (begin C.prog (λ_ _=>0) default).world.heap.toList.drop C.prog.globals.size
theorem restOk (os:Os) (args:Array Value):RestOk Tryz.checked (laidWorld os) args:=by unfold RestOk;kernel_rfl
end
end Go.Proofs.YtppjieiiibgagaaGreatDoor
