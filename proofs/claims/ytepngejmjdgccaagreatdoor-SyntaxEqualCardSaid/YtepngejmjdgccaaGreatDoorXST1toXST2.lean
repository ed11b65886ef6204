/-
  SYNTAX, texts by the reference 1: quoted texts, rows of words, addresses, numerals.
-/
import Derived.Test.YtepngejmjdgccaaGreatDoorXC4toXSK
import Derived.Test.YtepngejmjdgccaaGreatDoorXS3
import Derived.Test.YtepngejmjdgccaaGreatDoorXL16toXL17
namespace Go.Av
open Go Go.RowKit Go.Proofs
set_option linter.unusedSimpArgs false
set_option linter.unusedVariables false
theorem Rest.one {α:Type} {l:List α} {i:Nat} {x:α} {r:List α} (h:Rest l i x r):(l.take (i+1)).drop i=[x]:=by
 rw[h.take,List.drop_left' (by rw[List.length_take];have:=h.lt;omega)]
section
variable (G:Glob)
theorem f36 (s:List UInt8) (hs:s.length<1000000000000):Pure G Tryz.prog 36 [.str s] (.str (quoT s)):=by
 refine Pure.w c36 λR hR=>?_
 unfold s36 r36
 (repeat' (first|(with_reducible (first|refine split_case (λh=>?_) (λh=>?_)|refine gd_case (λh=>?_) (λh=>?_)|refine pick_case (λh=>?_) (λh=>?_))<;>(try simp only[Da,Db,Dc,Dw,De,Df,Dg,Dh]at h))|(with_reducible refine And.intro (by omega) ?_)|simp only[EVz,seval,↓reduceIte,EV6,EV7,List.length_append,List.length_cons,List.length_nil,hx.yes,hx.le0,hx.lt',hx.get,hx.row,hw,hx.one]|simp only[EVz,seval,↓reduceIte,EV6,EV7,List.length_append,List.length_cons,List.length_nil,hn]|simp only[EVz,seval,↓reduceIte,EV6,EV7,List.length_append,List.length_cons,List.length_nil]|(with_reducible intro blk hblk;(try(have hnx:=hblk;simp only[EVK]at hnx;first|(have hne:=And.intro hnx hne)|(have hne:=hnx))))|(with_reducible refine both_case ?_ ?_)|(with_reducible refine same_case ?_)|(refine W_list (ι:=List UInt8) (s) (λi r c=>34::s.flatMap escQ=c++r.flatMap escQ/\c.length<=i*2+1) (λi c=>[(0,.str s),(3,.str c),(4,.int .i64 i)]) (λ_ _=>[]) ([34]) (by first|rfl|(simp;done)|(simp[*];done)|(simp;omega)|omega) (Weak.rfl' _ _) (by omega) (λi x r c hok hx hw=>?_) (λc hok hn=>?_)<;>(try(have hil:=hx.lt)))|(refine LK_next hx _ ?_ (Weak.rfl' _ _))|(refine LK_next hx _ ?_ (Weak.sub (SubN.nil _)))|(exfalso;omega)))
 ·have e:escQ x=[92,x]:=by unfold escQ;rw[if_pos];right;exact UInt8.toNat_inj.1 (by show _=92;omega)
  exact⟨by rw[hok.1];simp[e],by omega⟩
 ·rename_i h2
  have e:escQ x=[x]:=by
   unfold escQ
   rw[if_neg]
   rintro(h3|h3)
   ·exact h2 (by rw[h3];rfl)
   ·exact h (by rw[h3];rfl)
  exact⟨by rw[hok.1];simp[e],by omega⟩
 ·have e:escQ x=[92,x]:=by unfold escQ;rw[if_pos];left;exact UInt8.toNat_inj.1 (by show _=34;omega)
  exact⟨by rw[hok.1];simp[e],by omega⟩
 ·refine RET.eq hR (congrArg AV.str ?_)
  have h1:=hok.1
  simp only[List.flatMap_nil,List.append_nil]at h1
  unfold quoT
  rw[←List.cons_append,h1]
theorem f58 (l:List (List UInt8)) (hl:l.length<=1000) (hwl:∀w∈l,w.length<=1000):Pure G Tryz.prog 58 [.lst 1 (l.map srow)] (.str (joinT l)):=by
 refine Pure.w c58 λR hR=>?_
 unfold s58 r58
 (repeat' (first|(with_reducible (first|refine split_case (λh=>?_) (λh=>?_)|refine gd_case (λh=>?_) (λh=>?_)|refine pick_case (λh=>?_) (λh=>?_))<;>(try simp only[Da,Db,Dc,Dw,De,Df,Dg,Dh]at h))|(with_reducible refine And.intro (by omega) ?_)|simp only[EVz,seval,↓reduceIte,EV6,EV7,List.length_append,List.length_cons,List.length_nil,hx.yes,hx.le0,hx.lt',hx.get,hx.row,hw]|simp only[EVz,seval,↓reduceIte,EV6,EV7,List.length_append,List.length_cons,List.length_nil,hn]|simp only[EVz,seval,↓reduceIte,EV6,EV7,List.length_append,List.length_cons,List.length_nil]|(with_reducible intro blk hblk;(try(have hnx:=hblk;simp only[EVK]at hnx;first|(have hne:=And.intro hnx hne)|(have hne:=hnx))))|(with_reducible refine both_case ?_ ?_)|(with_reducible refine same_case ?_)|(refine W_list (ι:=List UInt8) (l) (λi r c=>joinT l=c++(if i=0 then joinT r else flatS r)/\c.length<=i*1001) (λi c=>[(0,.lst 1 (l.map srow)),(3,.str c),(4,.int .i64 i)]) (λ_ _=>[]) ([]) (by first|rfl|(simp;done)|(simp[*];done)|(simp;omega)|omega) (Weak.rfl' _ _) (by omega) (λi x r c hok hx hw=>?_) (λc hok hn=>?_)<;>(try(have hil:=hx.lt;have hxl:=hwl x hx.mem;have hil2:i*1001<=1001000:=by omega)))|(refine LK_next hx _ ?_ (Weak.rfl' _ _))|(refine LK_next hx _ ?_ (Weak.sub (SubN.nil _)))|(exfalso;omega)))
 ·refine⟨?_,by omega⟩
  rw[hok.1,if_neg (by omega)]
  simp[flatS]
 ·refine⟨?_,by omega⟩
  rw[hok.1,if_pos (by omega)]
  simp[joinT]
 ·refine RET.eq hR (congrArg AV.str ?_)
  have h1:=hok.1
  split at h1<;>(rw[h1];simp[joinT,flatS])
def adrT (p:List Stp):List UInt8:=(addrF p).drop 1
def adT (p:List Stp):List UInt8:=if p=[]then [97,108,108]else adrT p
theorem at_ad (p:List Stp):atT p=32::adT p:=by
 unfold atT adT adrT
 split
 ·rfl
 ·rename_i h
  obtain⟨a,l,rfl⟩:=List.exists_cons_of_ne_nil h
  rfl
theorem step_facts {i:Nat} {l:List Stp} (h:stepsOk i l=true):∀s∈l,0<=s.kind/\s.kind<=7/\s.label.length<=9/\(decide (s.kind=0)&&decide (s.label=[]))=decide (s.kind=0):=by
 intro s hs
 have h1:=stps_ok h s hs
 refine⟨h1.1,h1.2.1,?_,?_⟩
 ·have key:∀{i:Nat} {l:List Stp},stepsOk i l=true->∀s∈l,s.label.length<=9:=by
   intro i l
   induction l generalizing i with
   |nil=>intro _ s hs;cases hs
   |cons a l ih=>
    intro h s hs
    simp only[stepsOk,Bool.and_eq_true]at h
    rcases List.mem_cons.1 hs with rfl|hs
    ·have h2:=h.1
     unfold stepOk at h2
     simp only[Bool.or_eq_true,Bool.and_eq_true,decide_eq_true_eq]at h2
     rcases h2 with⟨_,_,h3⟩|⟨_,_,h3⟩
     ·rw[h3];simp
     ·unfold labelOk at h3
      simp only[Bool.and_eq_true,decide_eq_true_eq]at h3
      omega
    ·exact ih h.2 s hs
  exact key h s hs
 ·by_cases hk:s.kind=0
  ·simp[hk,h1.2.2.1 hk]
  ·simp[hk]
theorem addr_more {a:Stp} {r:List Stp} {i:Nat} {c:List UInt8} {p:List Stp} (h:addrF p=(if i=0 then []else 32::c)++addrF (a::r)) (hc:i=0->c=[]):addrF p=32::((if i=0 then []else c++[32])++(kindText a.kind++((if a.kind=0 then []else 32::a.label)++addrF r))):=by
 have e:addrF (a::r)=32::(kindText a.kind++((if a.kind=0 then []else 32::a.label)++addrF r)):=by simp[addrF,stepT]
 rw[h,e]
 by_cases hi:i=0
 ·rw[if_pos hi,if_pos hi];rfl
 ·rw[if_neg hi,if_neg hi];simp
theorem addrF_cons' (a:Stp) (p:List Stp):addrF (a::p)=32::(stepT a++addrF p):=by simp[addrF]
theorem f57 (p:List Stp) (hp:addrOk p=true):Pure G Tryz.prog 57 [.lst 2 (p.map Stp.cs)] (.str (adrT p)):=by
 have hp':=hp
 unfold addrOk at hp'
 simp only[Bool.and_eq_true,decide_eq_true_eq]at hp'
 have hst:=step_facts hp'.2
 have hM:=f26 G p (by omega) (λs hs=>by have:=(hst s hs).2.2.1;omega)
 rw[hp]at hM
 refine Pure.w c57 λR hR=>?_
 unfold s57 r57
 (repeat' (first|(with_reducible (first|refine split_case (λh=>?_) (λh=>?_)|refine gd_case (λh=>?_) (λh=>?_)|refine pick_case (λh=>?_) (λh=>?_))<;>(try simp only[Da,Db,Dc,Dw,De,Df,Dg,Dh]at h))|(with_reducible refine And.intro (by omega) ?_)|(with_reducible refine CALL_pure (hM) ?_)|(with_reducible refine CALL_pure (f86 G) ?_)|(with_reducible refine CALL_pure (f50 G _ _) ?_)|simp only[EVz,seval,↓reduceIte,EV6,EV7,List.length_append,List.length_cons,List.length_nil,hx.yes,hx.le0,hx.lt',hx.get,hx.row,hw,hrow,hlt,kb,kindText_len]|simp only[EVz,seval,↓reduceIte,EV6,EV7,List.length_append,List.length_cons,List.length_nil,hn]|simp only[EVz,seval,↓reduceIte,EV6,EV7,List.length_append,List.length_cons,List.length_nil]|(with_reducible intro blk hblk;(try(have hnx:=hblk;simp only[EVK]at hnx;first|(have hne:=And.intro hnx hne)|(have hne:=hnx))))|(with_reducible refine both_case ?_ ?_)|(with_reducible refine same_case ?_)|(refine W_list (ι:=List UInt8) (p) (λi r c=>(addrF p=(if i=0 then []else 32::c)++addrF r/\(i=0->c=[]))/\c.length<=i*24) (λi c=>[(0,.lst 2 (p.map Stp.cs)),(3,.str c),(4,.int .i64 i)]) (λ_ _=>[]) ([]) (by first|rfl|(simp;done)|(simp[*];done)|(simp;omega)|omega) (Weak.rfl' _ _) (by omega) (λi x r c hok hx hw=>?_) (λc hok hn=>?_)<;>(try(obtain⟨k0,k7,kl,kb⟩:=hst x hx.mem;have hil:=hx.lt;have hrow:=kind_row k0 k7;have hlt:=kind_lt k7;have hkl:=kindText_len x.kind)))|(refine LK_next hx _ ?_ (Weak.rfl' _ _))|(refine LK_next hx _ ?_ (Weak.sub (SubN.nil _)))|(exfalso;omega)))
 all_goals first
  |(have h1:=addr_more hok.1.1 hok.1.2
    refine⟨⟨?_,λe=>e.elim⟩,by omega⟩
    rw[h1]
    by_cases hi:i=0
    ·have hc:=hok.1.2 hi
     simp[hi,hc,h]
     done
    ·simp[hi,h]
     done)
  |(have h1:=addr_more hok.1.1 hok.1.2
    refine⟨⟨?_,λe=>e.elim⟩,by omega⟩
    rw[h1]
    by_cases hi:i=0
    ·have hc:=hok.1.2 hi
     simp[hi,hc,h]
     done
    ·exfalso;omega)
  |(have h1:=addr_more hok.1.1 hok.1.2
    refine⟨⟨?_,λe=>e.elim⟩,by omega⟩
    rw[h1]
    by_cases hi:i=0
    ·exfalso;omega
    ·simp[hi,h]
     done)
  |(refine RET.eq hR (congrArg AV.str ?_)
    unfold adrT
    rw[hok.1.1]
    by_cases hp0:p.length=0
    ·simp[hp0,hok.1.2 hp0,addrF]
     done
    ·simp[hp0,addrF]
     done)
theorem f33 (p:List Stp) (hp:addrOk p=true):Pure G Tryz.prog 33 [.lst 2 (p.map Stp.cs)] (.str (adT p)):=by
 have hT:=f57 G p hp
 unfold adT
 refine Pure.w c33 λR hR=>?_
 unfold s33 r33
 by_cases h0:p=[]
 ·subst h0
  (repeat' (first|(with_reducible (first|refine split_case (λh=>?_) (λh=>?_)|refine gd_case (λh=>?_) (λh=>?_)|refine pick_case (λh=>?_) (λh=>?_))<;>(try simp only[Da,Db,Dc,Dw,De,Df,Dg,Dh]at h))|(with_reducible refine And.intro (by omega) ?_)|simp only[EVz,seval,↓reduceIte,EV6,EV7,List.map_nil,List.length_nil]|(with_reducible intro blk hblk;(try(have hnx:=hblk;simp only[EVK]at hnx;first|(have hne:=And.intro hnx hne)|(have hne:=hnx))))|(with_reducible refine both_case ?_ ?_)|(with_reducible refine same_case ?_)|(exfalso;omega)))
  all_goals exact RET.eq hR rfl
 ·have hl:¬((p.length:Int)=0):=by
   intro e;exact h0 (List.eq_nil_of_length_eq_zero (by omega))
  rw[if_neg h0]at hR
  (repeat' (first|(with_reducible (first|refine split_case (λh=>?_) (λh=>?_)|refine gd_case (λh=>?_) (λh=>?_)|refine pick_case (λh=>?_) (λh=>?_))<;>(try simp only[Da,Db,Dc,Dw,De,Df,Dg,Dh]at h))|(with_reducible refine And.intro (by omega) ?_)|(with_reducible refine CALL_pure (hT) ?_)|simp only[EVz,seval,↓reduceIte,EV6,EV7,hl]|(with_reducible intro blk hblk;(try(have hnx:=hblk;simp only[EVK]at hnx;first|(have hne:=And.intro hnx hne)|(have hne:=hnx))))|(with_reducible refine both_case ?_ ?_)|(with_reducible refine same_case ?_)|(exfalso;omega)))
  all_goals exact RET.eq hR rfl
end
theorem itN_len (n:Nat) (h:n<=9223372036854775807):(Lib.itoa (n:Int)).length<=21:=Lib.itoa_length_le _ (by omega) (by omega)
section
variable (G:Glob)
theorem f39 (n:Nat) (hn:n<=1000000000000):Pure G Tryz.prog 39 [.int .i64 n] (.str (Lib.itoa (n:Int))):=by
 have hN:=itN_len n (by omega)
 refine Pure.w c39 λR hR=>?_
 unfold s39 r39
 (repeat' (first|(with_reducible (first|refine split_case (λh=>?_) (λh=>?_)|refine gd_case (λh=>?_) (λh=>?_)|refine pick_case (λh=>?_) (λh=>?_))<;>(try simp only[Da,Db,Dc,Dw,De,Df,Dg,Dh]at h))|(with_reducible refine And.intro (by omega) ?_)|simp only[EVz,seval,↓reduceIte,EV6,EV7]|(with_reducible intro blk hblk;(try(have hnx:=hblk;simp only[EVK]at hnx;first|(have hne:=And.intro hnx hne)|(have hne:=hnx))))|(with_reducible refine both_case ?_ ?_)|(with_reducible refine same_case ?_)|(refine W_loop (ι:=Nat×List UInt8) (λp=>p.1<=n/\Lib.itoa (n:Int)=Lib.itoa (p.1:Int)++p.2) (λp=>p.1) (λp=>[(0,.int .i64 (p.1:Nat)),(3,.str p.2)]) (λ_=>[]) (n,[]) ⟨Nat.le_refl _,by simp⟩ (Weak.rfl' _ _) (λp hok=>?_))|(exfalso;omega)))
 ·obtain⟨m,c⟩:=p
  obtain⟨hm,hok⟩:=hok
  simp only at hm hok h
  have hcl:c.length<=21:=by
   have:=congrArg List.length hok
   rw[List.length_append]at this;omega
  have e2:(m:Int).tmod 10=((m % 10:Nat):Int):=by rw[Int.tmod_eq_emod_of_nonneg (by omega)];omega
  have e3:(m:Int).tdiv 10=((m / 10:Nat):Int):=by rw[Int.tdiv_eq_ediv_of_nonneg (by omega)];omega
  have e4:IntKind.i64.wrap (48+((m % 10:Nat):Int))=((48+m % 10:Nat):Int):=by rw[IntWalk.i64_in _ ⟨by omega,by omega⟩];omega
  have e5:IntKind.u8.wrap ((48+m % 10:Nat):Int)=((UInt8.ofNat (48+m % 10)).toNat:Int):=by
   rw[ofNat_dig (Nat.mod_lt m (by omega))]
   have hlt:m % 10<10:=Nat.mod_lt m (by omega)
   generalize m % 10=q at*
   have:q=0\/q=1\/q=2\/q=3\/q=4\/q=5\/q=6\/q=7\/q=8\/q=9:=by omega
   rcases this with rfl|rfl|rfl|rfl|rfl|rfl|rfl|rfl|rfl|rfl<;>rfl
  have e6:IntKind.i64.wrap ((m / 10:Nat):Int)=((m / 10:Nat):Int):=IntWalk.i64_in _ ⟨by omega,by omega⟩
  have h10:=itN_ge (n:=m) (by omega)
  (repeat' (first|(with_reducible (first|refine split_case (λh=>?_) (λh=>?_)|refine gd_case (λh=>?_) (λh=>?_)|refine pick_case (λh=>?_) (λh=>?_))<;>(try simp only[Da,Db,Dc,Dw,De,Df,Dg,Dh]at h))|(with_reducible refine And.intro (by omega) ?_)|simp only[EVz,seval,↓reduceIte,EV6,EV7,e2,e3,e4,e5,e6,List.length_cons,List.length_nil,List.length_append]|(with_reducible intro blk hblk;(try(have hnx:=hblk;simp only[EVK]at hnx;first|(have hne:=And.intro hnx hne)|(have hne:=hnx))))|(with_reducible refine both_case ?_ ?_)|(with_reducible refine same_case ?_)|(refine⟨[[AV.int .u8 (UInt8.ofNat (48+m % 10)).toNat]],rfl,(by simp),rfl,?_⟩)|(refine RAW_bytesStr (l:=[UInt8.ofNat (48+m % 10)]) (.inl (.inr ⟨rfl,rfl⟩)) Tryz.underlying87 Tryz.underlying5 Tryz.underlying9 ?_)|(exfalso;omega)))
  exact⟨(m / 10,UInt8.ofNat (48+m % 10)::c),⟨by show m / 10<=n;omega,by rw[hok,h10];simp⟩,by show m / 10<m;omega,Weak.sub (SubN.nil _)⟩
 ·obtain⟨m,c⟩:=p
  obtain⟨hm,hok⟩:=hok
  simp only at hm hok h
  have hcl:c.length<=21:=by
   have:=congrArg List.length hok
   rw[List.length_append]at this;omega
  have e4:IntKind.i64.wrap (48+(m:Int))=((48+m:Nat):Int):=by rw[IntWalk.i64_in _ ⟨by omega,by omega⟩];omega
  have e5:IntKind.u8.wrap ((48+m:Nat):Int)=((UInt8.ofNat (48+m)).toNat:Int):=by
   rw[ofNat_dig (by omega)]
   have:m=0\/m=1\/m=2\/m=3\/m=4\/m=5\/m=6\/m=7\/m=8\/m=9:=by omega
   rcases this with rfl|rfl|rfl|rfl|rfl|rfl|rfl|rfl|rfl|rfl<;>rfl
  have h10:=itN_lt (n:=m) (by omega)
  (repeat' (first|(with_reducible (first|refine split_case (λh=>?_) (λh=>?_)|refine gd_case (λh=>?_) (λh=>?_)|refine pick_case (λh=>?_) (λh=>?_))<;>(try simp only[Da,Db,Dc,Dw,De,Df,Dg,Dh]at h))|(with_reducible refine And.intro (by omega) ?_)|simp only[EVz,seval,↓reduceIte,EV6,EV7,e4,e5,List.length_cons,List.length_nil,List.length_append]|(with_reducible intro blk hblk;(try(have hnx:=hblk;simp only[EVK]at hnx;first|(have hne:=And.intro hnx hne)|(have hne:=hnx))))|(with_reducible refine both_case ?_ ?_)|(with_reducible refine same_case ?_)|(refine⟨[[AV.int .u8 (UInt8.ofNat (48+m)).toNat]],rfl,(by simp),rfl,?_⟩)|(refine RAW_bytesStr (l:=[UInt8.ofNat (48+m)]) (.inl (.inr ⟨rfl,rfl⟩)) Tryz.underlying87 Tryz.underlying5 Tryz.underlying9 ?_)|(exfalso;omega)))
  refine RET.eq hR (congrArg AV.str ?_)
  rw[hok,h10];rfl
theorem f37 (l:List (List UInt8)) (hl:l.length<=1000) (hwl:∀w∈l,w.length<=1000) (hj:(joinT l).length<=1001000):Pure G Tryz.prog 37 [.lst 1 (l.map srow)] (.str (quoW l)):=by
 refine Pure.w c37 λR hR=>?_
 unfold s37 r37
 (repeat' (first|(with_reducible (first|refine split_case (λh=>?_) (λh=>?_)|refine gd_case (λh=>?_) (λh=>?_)|refine pick_case (λh=>?_) (λh=>?_))<;>(try simp only[Da,Db,Dc,Dw,De,Df,Dg,Dh]at h))|(with_reducible refine And.intro (by omega) ?_)|(with_reducible refine CALL_pure (f58 G l hl hwl) ?_)|(with_reducible refine CALL_pure (f36 G _ (by omega)) ?_)|simp only[EVz,seval,↓reduceIte,EV6,EV7]|(with_reducible intro blk hblk;(try(have hnx:=hblk;simp only[EVK]at hnx;first|(have hne:=And.intro hnx hne)|(have hne:=hnx))))|(with_reducible refine both_case ?_ ?_)|(with_reducible refine same_case ?_)|(exfalso;omega)))
 all_goals exact RET.eq hR rfl
def whP (a:List UInt8) (w:Int):List UInt8:=if w=0\/w=1 then [105,110,116,111,32]++a else if w=2 then [98,101,104,105,110,100,32]++a else [97,104,101,97,100,32,111,102,32]++a
theorem f34 (a:List UInt8) (w:Int) (ha:a.length<=1000000):Pure G Tryz.prog 34 [.str a,.int .i64 w] (.str (whP a w)):=by
 refine Pure.w c34 λR hR=>?_
 unfold s34 r34
 (repeat' (first|(with_reducible (first|refine split_case (λh=>?_) (λh=>?_)|refine gd_case (λh=>?_) (λh=>?_)|refine pick_case (λh=>?_) (λh=>?_))<;>(try simp only[Da,Db,Dc,Dw,De,Df,Dg,Dh]at h))|(with_reducible refine And.intro (by omega) ?_)|simp only[EVz,seval,↓reduceIte,EV6,EV7,List.length_cons,List.length_nil]|(with_reducible intro blk hblk;(try(have hnx:=hblk;simp only[EVK]at hnx;first|(have hne:=And.intro hnx hne)|(have hne:=hnx))))|(with_reducible refine both_case ?_ ?_)|(with_reducible refine same_case ?_)|(exfalso;omega)))
 all_goals(refine RET.eq hR (congrArg AV.str ?_);simp[whP, *];done)
theorem f35 (w:Int):Pure G Tryz.prog 35 [.int .i64 w] (.str (edgeT w)):=by
 refine Pure.w c35 λR hR=>?_
 unfold s35 r35
 (repeat' (first|(with_reducible (first|refine split_case (λh=>?_) (λh=>?_)|refine gd_case (λh=>?_) (λh=>?_)|refine pick_case (λh=>?_) (λh=>?_))<;>(try simp only[Da,Db,Dc,Dw,De,Df,Dg,Dh]at h))|(with_reducible refine And.intro (by omega) ?_)|simp only[EVz,seval,↓reduceIte,EV6,EV7,List.length_cons,List.length_nil]|(with_reducible intro blk hblk;(try(have hnx:=hblk;simp only[EVK]at hnx;first|(have hne:=And.intro hnx hne)|(have hne:=hnx))))|(with_reducible refine both_case ?_ ?_)|(with_reducible refine same_case ?_)|(exfalso;omega)))
 all_goals(refine RET.eq hR (congrArg AV.str ?_);simp[edgeT, *];done)
theorem f38 (n:Int) (h0:0<=n) (h1:n<=1000000000000):Pure G Tryz.prog 38 [.int .i64 n] (.str (nthT n)):=by
 obtain⟨m,rfl⟩:=Int.eq_ofNat_of_zero_le h0
 have hl:=itN_len m (by omega)
 refine Pure.w c38 λR hR=>?_
 unfold s38 r38
 (repeat' (first|(with_reducible (first|refine split_case (λh=>?_) (λh=>?_)|refine gd_case (λh=>?_) (λh=>?_)|refine pick_case (λh=>?_) (λh=>?_))<;>(try simp only[Da,Db,Dc,Dw,De,Df,Dg,Dh]at h))|(with_reducible refine And.intro (by omega) ?_)|(with_reducible refine CALL_pure (f39 G m (by omega)) ?_)|simp only[EVz,seval,↓reduceIte,EV6,EV7,List.length_cons,List.length_nil]|(with_reducible intro blk hblk;(try(have hnx:=hblk;simp only[EVK]at hnx;first|(have hne:=And.intro hnx hne)|(have hne:=hnx))))|(with_reducible refine both_case ?_ ?_)|(with_reducible refine same_case ?_)|(exfalso;omega)))
 all_goals(refine RET.eq hR (congrArg AV.str ?_);first|(simp[nthT, *];done)|(unfold nthT;rw[if_neg (by omega)];rfl)|(unfold nthT;rw[if_pos (by omega)]))
end
end Go.Av
