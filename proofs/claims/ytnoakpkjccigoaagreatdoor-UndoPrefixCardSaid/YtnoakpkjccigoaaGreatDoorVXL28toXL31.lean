/-
  LINT, 28: lines and texts by the program.
-/
import Derived.Test.YtnoakpkjccigoaaGreatDoorVXE12toXL29
import Derived.Test.YtnoakpkjccigoaaGreatDoorVXE8toXE11
import Derived.Test.YtnoakpkjccigoaaGreatDoorVXL18toXOpI
import Derived.Lib.Join
import Derived.Test.YtnoakpkjccigoaaGreatDoorVXC4
import Derived.Test.YtnoakpkjccigoaaGreatDoorVXC5
import Derived.Test.YtnoakpkjccigoaaGreatDoorVXC6
import Derived.Test.YtnoakpkjccigoaaGreatDoorVXL14toXFrU
import Derived.Test.YtnoakpkjccigoaaGreatDoorVXE1toXL25
namespace Go.Av
open Go Go.RowKit Go.Proofs List
set_option linter.unusedSimpArgs false
set_option linter.unusedVariables false
theorem U.lone_short {u:U} (E:u.Short):u.lone.Short:=by
 have I:=E.2 u u.flat_self
 have D:=(U.fit_eq u).1 E.1.1
 have e:u.lone.flat=[u.lone]:=by rw[U.flat_eq];show _::U.flats []=_;rw[pp]
 refine⟨⟨(U.fit_eq _).2 ⟨D.1,D.2.1,D.2.2.1,by simp[U.lone],by simp[U.lone]⟩,by rw[e];simp⟩,?_⟩
 intro x F
 rw[e,mem_singleton]at F
 subst F
 exact I
theorem fit_strip:∀u:U,u.fit->u.strip.fit:=by
 refine U.ind λu ih J=>?_
 obtain⟨a,⟨b,I⟩,⟨c,c2⟩,d,e⟩:=(U.fit_eq u).1 J
 rw[U.strip_eq]
 refine(U.fit_eq _).2 ⟨a,⟨by simpa using b,?_⟩,⟨by simpa using c,?_⟩,by simpa using d,?_⟩
 ·intro x D
  obtain⟨w,E,rfl⟩:=mem_map.1 D
  exact I w E
 ·intro x D
  obtain⟨w,E,rfl⟩:=mem_map.1 D
  exact c2 w E
 ·intro x D
  obtain⟨k,F,rfl⟩:=mem_map.1 D
  exact ih k F (e k F)
theorem jw {u:U} (E:u.Short):u.strip.Short:=by
 refine⟨⟨fit_strip u E.1.1,by rw[eA,length_map];exact E.1.2⟩,?_⟩
 intro x I
 rw[eA]at I
 obtain⟨y,V,rfl⟩:=mem_map.1 I
 obtain⟨J,M,N,O,T⟩:=E.2 y V
 rw[U.strip_eq]
 refine⟨J,by simpa using M,by simpa using N,?_,?_⟩
 ·intro w F
  obtain⟨w',D,rfl⟩:=mem_map.1 F
  exact O w' D
 ·intro w F
  obtain⟨w',D,rfl⟩:=mem_map.1 F
  exact T w' D
theorem U.Short.node {u x:U} (F:u.Short) (D:x∈u.flat):x.Short:=by
 induction u using U.ind with
 |h u ih=>
  rw[U.flat_eq]at D
  rcases mem_cons.1 D with rfl|D
  ·exact F
  ·obtain⟨k,E,D⟩:=pR D
   exact ih k E (F.kid E) D
theorem repeat2 (n:Nat):Lib.repeatL [32,32] n=List.replicate (2*n) 32:=by
 induction n with
 |zero=>rfl
 |succ n ih=>rw[Lib.repeatL,ih,Nat.mul_add];simp[replicate_succ]
theorem kR {τ:Store} {w:World} {b:Nat}:∀(xs:List (List UInt8)) (i:Nat),ar τ w ⟨b,0,none⟩ 1 i (xs.map srow)->∀(j:Nat) x,xs[j]? =some x->w.cell? ⟨b,i+j,none⟩=some (.string ⟨⟨x⟩⟩)
 |[],i,_,j,x,hx=>by simp at hx
 |y::xs,i,h,j,x,hx=>by
  simp only[srow,map_cons,ar,RepAt,Rep]at h
  obtain⟨_,⟨⟨u,D,_,rfl⟩,_⟩,E⟩:=h
  cases j with
  |zero=>
   simp at hx
   subst hx
   have e:(⟨b,0,none⟩:Addr).add (i*1)=⟨b,i,none⟩:=by unfold Addr.add;by_cases hi:i=0<;>simp[hi]
   have:=D.1
   rw[e]at this
   exact this
  |succ j=>
   have:=kR xs (i+1) E j x (by simpa using hx)
   rw[show i+(j+1)=i+1+j by omega]
   exact this
section
variable (G:Glob)
theorem f320 (n:Nat) (N:n<=8):Pure G Tryz.prog 320 [.str [32,32],.int .i64 n] (.str (List.replicate (2*n) 32)):=by
 refine Pure.of_calls Tryz.func320 (by kernel_rfl) (by kernel_rfl) λτ w vs M I=>?_
 obtain⟨u,v,rfl,E,F⟩:=ji I
 simp only[Rep]at E F
 subst E F
 refine⟨.string ⟨⟨List.replicate (2*n) 32⟩⟩,λ_ _=>by simp only[Rep],?_⟩
 have D:(⟨⟨[32,32]⟩⟩:ByteArray).size=2:=rfl
 refine(Tryz.strings_Repeat ⟨⟨[32,32]⟩⟩ n w (by omega) (by rw[D];omega)).mono ?_
 rintro e w' ⟨rfl,J⟩
 exact⟨by rw[←repeat2],J⟩
theorem f279 (g:Option Nat) (xs:List (List UInt8)) (D:List UInt8) (hn:xs.length<=1000000) (Z:(Lib.join xs D).length<=140737488355328):Pure G Tryz.prog 279 [.own g 9 1 (xs.map srow),.str D] (.str (Lib.join xs D)):=by
 refine Pure.of_calls Tryz.func279 (by kernel_rfl) (by kernel_rfl) λτ w vs hS X=>?_
 obtain⟨u,v,rfl,I,O⟩:=ji X
 simp only[Rep]at O
 subst O
 refine⟨.string ⟨⟨Lib.join xs D⟩⟩,λ_ _=>by simp only[Rep],?_⟩
 have E:∀a c,xs=[]->Calls Tryz.prog 279 #[.slice a 0 c,.string ⟨⟨D⟩⟩] w λe w'=>e= .returned (.string ⟨⟨Lib.join xs D⟩⟩)/\Below w.heap.size w w':=by
  rintro a c rfl
  refine(Tryz.strings_Join_none a c ⟨⟨D⟩⟩ w).mono ?_
  rintro e w' ⟨rfl,rfl⟩
  exact⟨rfl,Below.refl _ _⟩
 cases g with
 |none=>
  simp only[Rep]at I
  obtain⟨rfl,M⟩:=I
  exact E _ _ (by simpa using M)
 |some b=>
  simp only[Rep]at I
  obtain⟨cap,rfl,T,hm,J,hr⟩:=I
  rw[length_map]at T ⊢
  by_cases M:xs=[]
  ·subst M
   exact E _ _ rfl
  ·have N:(xs.map (λx=>(⟨⟨x⟩⟩:ByteArray))).map (·.data.toList)=xs:=by rw[map_map];exact map_id xs
   have Y:b<w.heap.size:=by
    rcases Nat.lt_or_ge b w.heap.size with h|h
    ·exact h
    ·have:w.heap[b]? =none:=Array.getElem?_eq_none h
     simp[World.shape?,this]at J
   have F:∀(j:Nat) x,(xs.map (λx=>(⟨⟨x⟩⟩:ByteArray)))[j]? =some x->w.cell? ⟨b,0+j,none⟩=some (.string x):=by
    intro j x V
    simp only[getElem?_map,Option.map_eq_some_iff]at V
    obtain⟨y,hy,rfl⟩:=V
    exact kR xs 0 hr j y hy
   have h:=Tryz.strings_Join b 0 cap (xs.map (λx=>(⟨⟨x⟩⟩:ByteArray))) ⟨⟨D⟩⟩ w F Y (by simp;omega) (by simpa using T) (by rw[N];exact Z)
   rw[N,length_map]at h
   exact h
theorem f321 (s:List UInt8) (l:List Wd) (hs:s.length<=1000000) (J:aU l=true):Pure G Tryz.prog 321 [.str s,.lst 4 (l.map Wd.cs)] (.str (s++wordsT l)):=by
 have hl:=row_len J
 refine Pure.w c321 λR O=>?_
 unfold s321 r321
 (repeat' (first|(with_reducible (first|refine ab (λh=>?_) (λh=>?_)|refine ai (λh=>?_) (λh=>?_))<;>(try simp only[DZ]at h))|(with_reducible refine AI (by omega) ?_)|simp only[EVz,seval,↓reduceIte,EV6,EV7,length_append,length_cons,length_nil,E.yes,E.le0,E.lt',E.get,E.row,Z]|simp only[EVz,seval,↓reduceIte,EV6,EV7,length_append,length_cons,length_nil,V]|simp only[EVz,seval,↓reduceIte,EV6,EV7,length_append,length_cons,length_nil]|(with_reducible intro M F;(try(have I:=F;simp only[EVK]at I;(have X:=I))))|(refine ay (ι:=List UInt8) (l) (λi r c=>s++wordsT l=c++wordsT r/\c.length<=s.length+i*26) (λi c=>[(0,.str c),(7,.lst 4 (l.map Wd.cs)),(8,.int .i64 l.length),(9,.int .i64 i)]) (λ_ _=>[]) (s) (by((simp;done))) (Weak.rfl' _ _) (by omega) (λi x r c D E Z=>?_) (λc D V=>?_)<;>(try(obtain⟨hp,Y⟩:=row_word J E.mem;have T:=E.lt)))|(refine ap E _ ?_ (Weak.sub (SubN.nil _)))))
 ·rw[D.1]
  have e:escT x.text=92::x.text:=by unfold escT;rw[if_pos];right;exact UInt8.toNat_inj.1 (by show _=92;omega)
  exact⟨by simp[wordsT,e],by omega⟩
 ·rename_i N
  rw[D.1]
  have e:escT x.text=x.text:=by
   unfold escT
   rw[if_neg]
   rintro(h3|h3)
   ·exact N (by rw[h3];rfl)
   ·exact h (by rw[h3];rfl)
  exact⟨by simp[wordsT,e],by omega⟩
 ·rw[D.1]
  have e:escT x.text=92::x.text:=by unfold escT;rw[if_pos];left;exact UInt8.toNat_inj.1 (by show _=124;omega)
  exact⟨by simp[wordsT,e],by omega⟩
 ·exact RET.eq O (by rw[D.1];simp[wordsT])
end
theorem lone_cs (u:U):u.lone.cs=[.int .i64 0,.int .i64 0,.int .i64 0,.int .i64 u.kind,.str u.label,.lst 4 (u.head.map Wd.cs),.lst 4 (u.words.map Wd.cs),.lst 8 []]:=by rw[U.cs_eq];rfl
section
variable (G:Glob) (hG:GOk G)
include hG
theorem f319 (u:U) (d:Int) (J:u.Short):Pure G Tryz.prog 319 [.agg u.cs,.int .i64 d] (.bool ((decide (0<=d)&&decide (d<=8))&&alone11 u)):=by
 have F:=f307 G u.lone (U.lone_short J)
 have I:=f200 G hG u.lone.strip (jw (U.lone_short J))
 rw[tree_lone]at I
 rw[lone_cs]at F
 rw[U.cs_eq u]
 refine Pure.w c319 λR N=>?_
 unfold s319 r319
 (repeat' (first|(with_reducible (refine ai (λh=>?_) (λh=>?_))<;>(try simp only[DZ]at h))|(with_reducible refine aa I ?_)|simp only[EVz,seval,↓reduceIte,EV6,EV7]|(with_reducible intro M D;(try(have E:=D;simp only[EVK]at E;(have O:=E))))|(refine aE F ⟨.inr ⟨.inl rfl,.inl rfl,.inl rfl,.inl rfl,.inl rfl,.inl rfl,.inl rfl,.inr rfl,trivial⟩,trivial⟩ ?_)))
 all_goals(refine RET.eq N (congrArg AV.bool ?_);first|(simp[*];done)|(rw[decide_eq_false (p:=0<=d) (by omega)];rfl)|(rw[decide_eq_false (p:=d<=8) (by omega),Bool.and_false];rfl))
theorem f309 (u:U) (n:Nat) (F:u.Short) (hn:n<=1000000):Pure G Tryz.prog 309 [.agg u.cs,.int .i64 n] (.str (lineOf u n)):=by
 have J:=f319 G hG u n F
 have E:=f292 G hG u.kind
 refine Pure.w c309 λR I=>?_
 unfold s309 r309
 by_cases D:alone11 u=true/\n<=8
 ·obtain⟨Y,Z,V,X,al⟩:=alone_facts D.1
  have b1:=wordsT_row V
  have b2:=wordsT_row X
  have b3:=kindText_len u.kind
  have T:=f320 G n D.2
  rw[D.1,Bool.and_true,show(decide ((0:Int)<=n)&&decide ((n:Int)<=8))=true by simp;omega]at J
  rw[if_pos ⟨Y,Z⟩]at E
  have M:lineOf u n=lineT u n:=by unfold lineOf;rw[if_pos ⟨D.2,D.1⟩]
  rw[M]at I
  have N:=λs F=>f321 G s u.head F V
  have O:=λs F=>f321 G s u.words F X
  (repeat' (first|(with_reducible (refine ab (λh=>?_) (λh=>?_))<;>(try simp only[DZ]at h))|(with_reducible first|refine AI (by omega) ?_|refine aa J ?_|refine aa E ?_|refine aa T ?_|refine aa (N _ (by simp;omega)) ?_|refine aa (O _ (by simp;omega)) ?_)|simp only[EVz,seval,↓reduceIte,EV6,EV7,length_append,length_cons,length_nil,length_replicate]))
  all_goals(refine RET.eq I (congrArg AV.str ?_);unfold lineT;(repeat first|rw[if_pos (by omega)]|rw[if_neg (by omega)]);simp;done)
 ·have e:((decide ((0:Int)<=n)&&decide ((n:Int)<=8))&&alone11 u)=false:=by
   rw[Bool.eq_false_iff]
   intro h
   simp at h
   exact D ⟨h.2,by omega⟩
  rw[e]at J
  have M:lineOf u n=[]:=by unfold lineOf;rw[if_neg (λh=>D ⟨h.2,h.1⟩)]
  rw[M]at I
  (repeat' (first|(with_reducible refine aa J ?_)|simp only[EVz,seval,↓reduceIte,EV6,EV7]))
  (all_goals((exact RET.eq I rfl)))
end
def fK:List U->AV
 |[]=>.nil
 |x::l=>.lst 8 ((x::l).map U.cs)
theorem mX {l:List U} (h:l≠[]):fK l= .lst 8 (l.map U.cs):=by cases l<;>simp_all[fK]
theorem eF:∀(i:Idd) (u:U),(U.way i u).length<=u.flat.length:=by
 intro i
 refine U.ind λu ih=>?_
 have h:∀us:List U,(∀k∈us,(U.way i k).length<=k.flat.length)->(U.ways i us).length<=(U.flats us).length:=by
  intro us
  induction us with
  |nil=>intro _;rw[U.ways_nil];simp
  |cons k us ihu=>
   intro h
   have D:=h k (by simp)
   have I:=ihu λk F=>h k (by simp[F])
   rw[U.ways_cons,pk,length_append]
   cases E:U.way i k with
   |nil=>simp only[orW];omega
   |cons x l=>rw[E]at D;simp only[orW];omega
 have D:=h u.kids ih
 rw[U.way_eq,U.flat_eq,length_cons]
 split
 ·simp
 ·cases E:U.ways i u.kids with
  |nil=>simp[fL]
  |cons x l=>rw[E]at D;simp only[fL,length_cons]at*;omega
theorem app_new {e:TypeId} {sz bytes m D:Nat} {σ:Store} {rows ys:List (List AV)} {K:AV->Store->Prop} (I:m=rows.length*sz)
  (J:(rows.length+ys.length)*bytes<=140737488355328) (F:∀E,K (.own E e sz (rows++ys)) (tokS E e ((rows++ys).length*sz))):appX e sz bytes ((D,.tok e m)::σ) (some D) rows ys K:=
 p6 (m:=m) (λd h=>by injection h with h;subst h;simp[Store.get]) I rfl J F
theorem m7 {t:Idd}:∀u:U,∀v∈U.way t u,v∈u.flat:=by
 refine U.ind λu ih v D=>?_
 have h:∀us:List U,(∀k∈us,∀v∈U.way t k,v∈k.flat)->∀v∈U.ways t us,v∈U.flats us:=by
  intro us
  induction us with
  |nil=>intro _ v D;rw[U.ways_nil]at D;cases D
  |cons k us ihu=>
   intro h v D
   rw[U.ways_cons]at D
   rw[pk,mem_append]
   cases E:U.way t k with
   |nil=>rw[E]at D;exact .inr (ihu (λk F=>h k (by simp[F])) v D)
   |cons x l=>rw[E]at D;exact .inl (h k (by simp) v (by rw[E];exact D))
 rw[U.way_eq]at D
 rw[U.flat_eq]
 split at D
 ·simp only[mem_singleton]at D;subst D;exact mem_cons_self ..
 ·cases E:U.ways t u.kids with
  |nil=>rw[E]at D;cases D
  |cons x l=>
   rw[E]at D
   rcases mem_cons.1 D with rfl|D
   ·exact mem_cons_self ..
   ·exact mem_cons_of_mem _ (h u.kids ih v (by rw[E];exact D))
section
variable (G:Glob)
theorem f23 (k:Int):Pure G Tryz.prog 23 [.int .i64 k] (.bool (chg k)):=by
 refine Pure.w c23 λR E=>?_
 unfold s23 r23
 (repeat' (first|(with_reducible (first|refine ab (λh=>?_) (λh=>?_)|refine ai (λh=>?_) (λh=>?_)|refine aj (λh=>?_) (λh=>?_))<;>(try simp only[DZ]at h))|(with_reducible refine AI (by omega) ?_)|simp only[EVz,seval,↓reduceIte,EV6,EV7]|(with_reducible intro J F;(try(have D:=F;simp only[EVK]at D;first|(have I:=AI D I)|(have I:=D))))|(with_reducible first|refine ae ?_ ?_|refine af ?_)|(exfalso;omega)))
 (all_goals(first|(exact RET.eq E rfl)|rfl|(refine RET.eq E ?_;(refine congrArg AV.bool (Bool.eq_iff_iff.2 ?_);simp only[chg,EVB]at*;omega))|(refine RET.eq E ?_;first|(simp only[chg,hok,h,EVC,decide_true,decide_false];done)|(simp only[chg,hok,EVC,decide_true,decide_false];done)|(simp only[chg,hok,EVC,decide_true,decide_false];refine congrArg AV.bool (decide_eq_decide.2 ?_);omega)|(simp_all[chg];done)|(simp_all[chg];omega)|grind|(norm_cast at*;simp_all[chg];done)|(norm_cast at*;simp_all[chg];omega))|(refine E _ _ (Or.inl (Or.inr ⟨rfl,?_⟩));simp[chg];done)|(refine E _ _ (Or.inr ?_);simp[*,bc,aR,Itm.cs_eq,U.cs_eq,chg];done)|(rw[hok];simp only[chg,h,EVC,decide_true,decide_false];done)|(rw[hok];simp only[chg,EVC,decide_true,decide_false];done)|(simp_all[chg];done)|(simp_all[chg];omega)|grind|(norm_cast at*;simp_all[chg];done)|(norm_cast at*;simp_all[chg];omega)))
theorem f233 (n:Int):Pure G Tryz.prog 233 [.int .i64 n] (.bool (inR n 0 3)):=by
 refine Pure.w c233 λR E=>?_
 unfold s233 r233
 (repeat' (first|(with_reducible (first|refine ab (λh=>?_) (λh=>?_)|refine ai (λh=>?_) (λh=>?_)|refine aj (λh=>?_) (λh=>?_))<;>(try simp only[DZ]at h))|(with_reducible refine AI (by omega) ?_)|simp only[EVz,seval,↓reduceIte,EV6,EV7]|(with_reducible intro J F;(try(have D:=F;simp only[EVK]at D;first|(have I:=AI D I)|(have I:=D))))|(with_reducible first|refine ae ?_ ?_|refine af ?_)|(exfalso;omega)))
 (all_goals(first|(exact RET.eq E rfl)|rfl|(refine RET.eq E ?_;(refine congrArg AV.bool (Bool.eq_iff_iff.2 ?_);simp only[inR,EVB]at*;omega))|(refine RET.eq E ?_;first|(simp only[inR,hok,h,EVC,decide_true,decide_false];done)|(simp only[inR,hok,EVC,decide_true,decide_false];done)|(simp only[inR,hok,EVC,decide_true,decide_false];refine congrArg AV.bool (decide_eq_decide.2 ?_);omega)|(simp_all[inR];done)|(simp_all[inR];omega)|grind|(norm_cast at*;simp_all[inR];done)|(norm_cast at*;simp_all[inR];omega))|(refine E _ _ (Or.inl (Or.inr ⟨rfl,?_⟩));simp[inR];done)|(refine E _ _ (Or.inr ?_);simp[*,bc,aR,Itm.cs_eq,U.cs_eq,inR];done)|(rw[hok];simp only[inR,h,EVC,decide_true,decide_false];done)|(rw[hok];simp only[inR,EVC,decide_true,decide_false];done)|(simp_all[inR];done)|(simp_all[inR];omega)|grind|(norm_cast at*;simp_all[inR];done)|(norm_cast at*;simp_all[inR];omega)))
theorem f231 (u:U) (s:Stp):Pure G Tryz.prog 231 [.agg u.cs,.agg [.int .i64 s.kind,.str s.label]] (.bool (aL u s)):=by
 refine Pure.w c231 λR E=>?_
 unfold s231 r231
 (repeat' (first|(with_reducible (first|refine ab (λh=>?_) (λh=>?_)|refine ai (λh=>?_) (λh=>?_)|refine aj (λh=>?_) (λh=>?_))<;>(try simp only[DZ]at h))|(with_reducible refine AI (by omega) ?_)|simp only[EVz,seval,↓reduceIte,EV6,EV7]|(with_reducible intro J F;(try(have D:=F;simp only[EVK]at D;first|(have I:=AI D I)|(have I:=D))))|(with_reducible first|refine ae ?_ ?_|refine af ?_)|(exfalso;omega)))
 (all_goals(first|(exact RET.eq E rfl)|rfl|(refine RET.eq E ?_;(refine congrArg AV.bool (Bool.eq_iff_iff.2 ?_);simp only[aL,EVB]at*;omega))|(refine RET.eq E ?_;first|(simp only[aL,hok,h,EVC,decide_true,decide_false];done)|(simp only[aL,hok,EVC,decide_true,decide_false];done)|(simp only[aL,hok,EVC,decide_true,decide_false];refine congrArg AV.bool (decide_eq_decide.2 ?_);omega)|(simp_all[aL];done)|(simp_all[aL];omega)|grind|(norm_cast at*;simp_all[aL];done)|(norm_cast at*;simp_all[aL];omega))|(refine E _ _ (Or.inl (Or.inr ⟨rfl,?_⟩));simp[aL];done)|(refine E _ _ (Or.inr ?_);simp[*,bc,aR,Itm.cs_eq,U.cs_eq,aL];done)|(rw[hok];simp only[aL,h,EVC,decide_true,decide_false];done)|(rw[hok];simp only[aL,EVC,decide_true,decide_false];done)|(simp_all[aL];done)|(simp_all[aL];omega)|grind|(norm_cast at*;simp_all[aL];done)|(norm_cast at*;simp_all[aL];omega)))
theorem f83 (j:Idd):∀(u:U),u.Tame->Pure G Tryz.prog 83 [.agg u.cs,.agg j.cs] (fK (U.way j u)):=by
 refine U.ind λu ih Y=>?_
 have ac:=Y.kids
 have hc:=Y.2
 have M:=eF j u
 refine Pure.w c83 λR N=>?_
 unfold s83 r83
 rw[U.way_eq]at N M
 by_cases X:u.id=j
 ·have T:decide (u.id=j)=true:=decide_eq_true X
  rw[if_pos X]at N
  (repeat' (first|(with_reducible (first|refine ab (λh=>?_) (λh=>?_)|refine ai (λh=>?_) (λh=>?_)|refine aj (λh=>?_) (λh=>?_))<;>(try simp only[DZ]at h))|(with_reducible refine AI (by omega) ?_)|simp only[EVz,seval,↓reduceIte,EV6,EV7,gv,T]|(with_reducible intro O E;(try(have D:=E;simp only[EVK]at D;first|(have F:=AI D F)|(have F:=D))))|(with_reducible first|refine ae ?_ ?_|refine af ?_)|(refine⟨[u.cs],rfl,(by simp[U.cs_len]),(by simp),?_⟩)|(exfalso;omega)))
  exact N _ _ (Or.inl (Or.inr ⟨rfl,rfl⟩))
 ·have T:decide (u.id=j)=false:=decide_eq_false X
  rw[if_neg X]at N M
  simp only[Idd.cs]at ih
  (repeat' (first|(with_reducible (first|refine ab (λh=>?_) (λh=>?_)|refine ai (λh=>?_) (λh=>?_)|refine aj (λh=>?_) (λh=>?_))<;>(try simp only[DZ]at h))|(with_reducible refine AI (by omega) ?_)|simp only[EVz,seval,↓reduceIte,EV6,EV7,gv,T,J.yes,J.le0,J.lt',J.get,J.row,Z]|simp only[EVz,seval,↓reduceIte,EV6,EV7,gv,T,hn]|simp only[EVz,seval,↓reduceIte,EV6,EV7,gv,T]|(with_reducible intro O E;(try(have D:=E;simp only[EVK]at D;first|(have F:=AI D F)|(have F:=D))))|(with_reducible first|refine ae ?_ ?_|refine af ?_)|(refine ap J () ?_ (Weak.rfl' _ _))|(refine ap J () ?_ (Weak.sub (SubN.nil _)))|(refine ay (u.kids) (λi r (c:Unit)=>U.ways j u.kids=U.ways j r) (λi c=>[(2,.ref u.cs),(3,.ref j.cs),(15,.lst 8 (u.kids.map U.cs)),(16,.int .i64 u.kids.length),(17,.int .i64 i)]) (λ_ _=>[]) () (by first|rfl|(simp;done)|(simp[*];done)|(simp;omega)) (Weak.rfl' _ _) (by omega) (λi x r c I J Z=>?_) (λc I hn=>?_))|(exfalso;omega)))
  ·have h:=ih x J.mem (Y.kid J.mem)
   rw[U.ways_cons]at I
   cases V:U.way j x with
   |nil=>
    rw[V]at h I
    simp only[fK]at h
    (repeat' (first|(with_reducible (first|refine ab (λh=>?_) (λh=>?_)|refine ai (λh=>?_) (λh=>?_)|refine aj (λh=>?_) (λh=>?_))<;>(try simp only[DZ]at h))|(with_reducible first|refine AI (by omega) ?_|refine aa h ?_)|simp only[EVz,seval,↓reduceIte,EV6,EV7,Z]|(with_reducible intro O E;(try(have D:=E;simp only[EVK]at D;first|(have F:=AI D F)|(have F:=D))))|(with_reducible first|refine ae ?_ ?_|refine af ?_)|(exfalso;omega)))
    exact ap J () I (Weak.sub (SubN.nil _))
   |cons y l=>
    rw[V]at h I
    simp only[fK,map_cons]at h
    (repeat' (first|(with_reducible (first|refine ab (λh=>?_) (λh=>?_)|refine ai (λh=>?_) (λh=>?_)|refine aj (λh=>?_) (λh=>?_))<;>(try simp only[DZ]at h))|(with_reducible first|refine AI (by omega) ?_|refine aa h ?_)|simp only[EVz,seval,↓reduceIte,EV6,EV7,Z]|(with_reducible intro O E;(try(have D:=E;simp only[EVK]at D;first|(have F:=AI D F)|(have F:=D))))|(with_reducible first|refine ae ?_ ?_|refine af ?_)|(refine⟨[u.cs],rfl,(by simp[U.cs_len]),(by simp),?_⟩)|(exfalso;omega)))
    ·have e:fL u (U.ways j u.kids)=u::y::l:=by rw[I];rfl
     rw[e]at N M
     simp only[length_cons]at M
     refine app_new (by simp) (by simp;omega) (λgn=>?_)
     exact N _ _ (Or.inl (Or.inr ⟨rfl,by simp⟩))
    ·have:=E (by simp)
     rw[this]at h
     cases h
  ·rw[I,U.ways_nil]at N
   exact RET.eq N rfl
theorem get_last {l:List U} {x y:U} (h:(x::l).getLast?=some y):((x::l).map U.cs).getD l.length []=y.cs:=by
 have:(x::l)[l.length]? =some y:=by
  rw[getLast?_eq_getElem?]at h
  simpa using h
 simp only[List.getD,getElem?_map,this,Option.map_some,Option.getD_some]
def gV (j:Idd) (u:U):AV:=if (U.way j u).isEmpty then .tup [.agg zU,.bool false]else .tup [.agg (fnd j u).cs,.bool true]
theorem f44 (j:Idd) (u:U) (T:u.Short):Pure G Tryz.prog 44 [.agg u.cs,.agg j.cs] (gV j u):=by
 have I:=f83 G j u T.1
 have M:=eF j u
 have hc:=T.1.2
 refine Pure.w c44 λR J=>?_
 unfold s44 r44
 unfold gV at J
 simp only[Idd.cs]at I ⊢
 cases N:U.way j u with
 |nil=>
  rw[N]at I J
  simp only[fK]at I
  (repeat' (first|(with_reducible (first|refine ab (λh=>?_) (λh=>?_)|refine ai (λh=>?_) (λh=>?_)|refine aj (λh=>?_) (λh=>?_))<;>(try simp only[DZ]at h))|(with_reducible first|refine AI (by omega) ?_|refine aa I ?_)|simp only[EVz,seval,↓reduceIte,EV6,EV7]|(with_reducible intro O E;(try(have D:=E;simp only[EVK]at D;first|(have F:=AI D F)|(have F:=D))))|(with_reducible first|refine ae ?_ ?_|refine af ?_)|(exfalso;omega)))
  exact J _ _ (Or.inl (Or.inl rfl))
 |cons x l=>
  obtain⟨y,X⟩:∃y,(x::l).getLast?=some y:=⟨_,getLast?_eq_some_getLast (by simp)⟩
  have hf:fnd j u=y:=aB (by rw[N];exact X)
  have Y:y.Short:=T.node (m7 u y (by rw[N];exact mem_of_getLast? X))
  have Z:=get_last X
  have hC:=ko.freeze (f84 G y Y)
  rw[N]at I J M
  rw[hf]at J
  simp only[fK,map_cons]at I Z
  simp only[length_cons]at M
  have V:IntKind.i64.wrap (((l.length+1:Nat):Int)-1)=(l.length:Int):=by rw[aA (by omega) (by omega)];omega
  (repeat' (first|(with_reducible (first|refine ab (λh=>?_) (λh=>?_)|refine ai (λh=>?_) (λh=>?_)|refine aj (λh=>?_) (λh=>?_))<;>(try simp only[DZ]at h))|(with_reducible first|refine AI (by omega) ?_|refine aa I ?_|refine aa hC ?_)|simp only[EVz,seval,↓reduceIte,EV6,EV7,V,Z]|(with_reducible intro O E;(try(have D:=E;simp only[EVK]at D;first|(have F:=AI D F)|(have F:=D))))|(with_reducible first|refine ae ?_ ?_|refine af ?_)|(exfalso;omega)))
  exact J _ _ (Or.inl (Or.inl rfl))
end
section
variable (G:Glob)
end
section
variable (G:Glob)
end
section
variable (G:Glob)
end
section
variable (G:Glob)
end
end Go.Av
namespace Go.Av
open Go Go.RowKit List
set_option linter.unusedSimpArgs false
set_option linter.unusedVariables false
section
variable {G:Glob} {P:Program} {k:FuncId} {args:List AV} {e:TypeId} {sz:Nat} {rows:List (List AV)}
end
/-! ### rows that point nowhere -/
def AV.flat:AV->Bool
 | .bool _=>true
 | .int _ _=>true
 | .str _=>true
 |_=>false
theorem AV.flat_rep {σ σ':Store} {w w':World}:∀{x:AV} {u:Value},x.flat=true->Rep σ w x u->Rep σ' w' x u
 | .bool _,_,_,h=>by simp only[Rep]at h ⊢;exact h
 | .int _ _,_,_,h=>by simp only[Rep]at h ⊢;exact h
 | .str _,_,_,h=>by simp only[Rep]at h ⊢;exact h
section
variable {G:Glob} {P:Program} {k:FuncId} {args:List AV} {e:TypeId} {sz:Nat} {rows:List (List AV)}
end
end Go.Av
namespace Go.Av
open Go Go.RowKit Go.Proofs List
set_option linter.unusedSimpArgs false
set_option linter.unusedVariables false
section
variable (G:Glob)
end
theorem ec {G:Glob} {P:Program} {f:Value} {args:List AV} {σ:Store} {K:AV->Store->Prop} {t:Tag K} {v:AV}
  (h:cd G P f args σ λr σ'=>r=v/\σ'=σ) (D:K v σ):CALL G P f args σ K t:=
 aZ σ [] h (ax.rfl' _) (by rw[append_nil];exact SubN.refl _) (by rintro _ _ ⟨rfl,rfl⟩;rw[append_nil];exact D)
theorem ag.wk {G:Glob} {P:Program} {k:FuncId} {args:List AV} {σ:Store} {r:AV} {g:List Nat} {D:List (Nat×Option (Bool×Nat))} {s:SCode} (E:fnAt P k g=some (D,s))
  (h:∀R,(∀x σ',AVle x r->SubN σ σ'->RET x σ' R)->W G P s (retQ D R) (cL 0 args) σ ⟨⟩):ag G P k args σ λx σ'=>x=r/\σ'=σ:=
 ag.at E (h _ λx σ' I F=>⟨r,σ,I,F,rfl,rfl⟩)
section
variable (G:Glob)
end
theorem nV {e:TypeId} {sz bytes n m m':Nat} {τ:Store} (κ:Store) {g:Option Nat} {rows:List (List AV)} {cs:List AV} {K:AV->Store->Prop} {b k1:Nat} (F:τ=κ++tokS g e m) (O:∀d,g=some d->d∉κ.keys) (Z:rows.length=n) (X:m=n*sz)
  (E:m'=(n+1)*sz) (V:cs.length=sz) (N:b∉τ.keys) (Y:(n+1)*bytes<=140737488355328) (T:∀D,(∀d,D=some d->d∉κ.keys)->K (.own D e sz (rows++[cs])) (κ++tokS D e m')):
  appX e sz bytes ((b,.tok e k1)::τ) g rows [cs] K:=by
 obtain⟨rs,J,h2,I,M⟩:=app_rowK (K:=λ_=>K) (k1:=k1) κ F O Z X E V N Y T
 obtain⟨r,rfl⟩:=length_eq_one_iff.1 J
 simp only[flatten_cons,flatten_nil,append_nil]at I
 subst I
 exact M
section
variable (G:Glob)
theorem v_clo2 {k:Nat} {b c:Nat} {args:List AV} {σ:Store} {R:AV->Store->Prop} (h:ag G Tryz.prog k (args++[.sc (.pointer (some ⟨b,0,none⟩)),.sc (.pointer (some ⟨c,0,none⟩))]) σ R):cd G Tryz.prog (.func (.func k) #[] #[.pointer (some ⟨b,0,none⟩),.pointer (some ⟨c,0,none⟩)]) args σ R:=
 ⟨k,#[],#[.pointer (some ⟨b,0,none⟩),.pointer (some ⟨c,0,none⟩)],rfl,by simpa[AV.ofValue,AV.ofOne]using h⟩
end
theorem ka:∀l:List (List UInt8),l≠[]->Lib.join l [10]++[10]=l.flatMap λs=>s++[10]
 |[],h=>absurd rfl h
 |[s],_=>by simp[Lib.join,List.intercalate]
 |s::t::l,_=>by
  have ih:=ka (t::l) (by simp)
  have e:Lib.join (s::t::l) [10]=s++([10]++Lib.join (t::l) [10]):=by simp[Lib.join,List.intercalate]
  rw[e,flatMap_cons,←ih]
  simp
theorem textT_len (u:U) (M:u.flat.length<1000000):(textT u).length<=20001000000:=by
 have F:=U.lines_len u 0
 have D:=lines_short u 0
 unfold textT
 have key:∀l:List (List UInt8),(∀s∈l,s.length<=20000)->(l.flatMap λs=>s++[10]).length<=l.length*20001:=by
  intro l
  induction l with
  |nil=>intro _;simp
  |cons s l ih=>
   intro h
   have I:=h s (by simp)
   have J:=ih λt E=>h t (by simp[E])
   simp only[flatMap_cons,length_append,length_cons,length_nil]at*
   omega
 have:=key _ D
 omega
def LnSt (E D:Nat) (g:Option Nat) (v:AV) (n:Nat):Store:=(D,.cells 274 [.sc (.func (.func 308) #[] #[.pointer (some ⟨E,0,none⟩),.pointer (some ⟨D,0,none⟩)])])::(E,.cells 47 [v])::tokS g 9 n
def LnOk (E D:Nat) (g:Option Nat) (v:AV) (rows:List (List UInt8)):Prop:=(v= .own g 9 1 (rows.map srow)\/v= .nil/\g=none/\rows=[])/\(∀d,g=some d->d≠E/\d≠D)/\D≠E
section
variable (G:Glob) (hG:GOk G)
include hG
set_option maxHeartbeats 2000000 in
theorem f308:∀(u:U) (n:Nat),u.Short->n+u.flat.length<=1000000->∀(M F:Nat) (g:Option Nat) (v:AV) (rows:List (List UInt8)),LnOk M F g v rows->rows.length+u.flat.length<=1000000->
  ag G Tryz.prog 308 [.agg u.cs,.int .i64 n,.sc (.pointer (some ⟨M,0,none⟩)),.sc (.pointer (some ⟨F,0,none⟩))] (LnSt M F g v rows.length)
   (λr σ'=>r= .tup []/\∃Z,LnOk M F Z (.own Z 9 1 ((rows++u.lines n).map srow)) (rows++u.lines n)/\σ'=LnSt M F Z (.own Z 9 1 ((rows++u.lines n).map srow)) (rows++u.lines n).length):=by
 refine U.ind λu ih n hs hn M F g v rows I bi=>?_
 have bh:=hs.1.kids
 have bd:u.flat.length=1+(U.flats u.kids).length:=by rw[U.flat_eq,length_cons];omega
 have Y:IntKind.i64.wrap ((n:Int)+1)=((n+1:Nat):Int):=by rw[aA (by omega) (by omega)];omega
 obtain⟨hv,hg,E⟩:=I
 have J:¬M=F:=λe=>E e.symm
 have hL:=f309 G hG u n hs (by omega)
 have al:=U.lines_len u n
 refine ag.w c308 ?_
 unfold s308 r308 LnSt
 rcases hv with rfl|⟨rfl,rfl,rfl⟩
 ·(repeat' (first|(with_reducible refine aa hL ?_)|simp only[EVz,seval,↓reduceIte,EV6,EV7,E,J,ah]|simp only[EVz,seval,↓reduceIte,EV6,EV7,E,J]|(with_reducible intro an V;(try(have X:=V;simp only[EVK]at X;(have ah:=X))))|(with_reducible first|refine ae ?_ ?_|refine af ?_)|(refine⟨[[.str (lineOf u n)]],rfl,(by simp),rfl,?_⟩)|(refine nV (n:=rows.length) (m':=rows.length+1) [_,_] (by rfl) (λd hd=>by simp[Store.keys];exact⟨(hg d hd).2,(hg d hd).1⟩) (by simp) (by omega) (by omega) rfl (by assumption) (by omega) (λgn ac=>?_))))
  all_goals(
   refine ay (ι:=Option Nat×List (List UInt8)) u.kids (λi r c=>LnOk M F c.1 (.own c.1 9 1 (c.2.map srow)) c.2/\rows++u.lines n=c.2++U.liness (n+1) r/\c.2.length+(U.liness (n+1) r).length<=1000000)
    (λi c=>[(1,.int .i64 n),(3,.sc (.pointer (some ⟨F,0,none⟩))),(15,.lst 8 (u.kids.map U.cs)),(16,.int .i64 u.kids.length),(17,.int .i64 i)])
    (λi c=>LnSt M F c.1 (.own c.1 9 1 (c.2.map srow)) c.2.length) (gn,rows++[lineOf u n]) ⟨⟨.inl rfl,λd hd=>by have:=ac d hd;simp[Store.keys]at this;exact⟨this.2,this.1⟩,E⟩,by rw[U.lines_eq];simp,by have:=al;simp only[U.lines_eq,length_cons,length_append,length_nil]at*;omega⟩
    (by simp only[LnSt,map_append,map_cons,map_nil,length_append,length_cons,length_nil,srow];exact Weak.rfl' _ _) (by omega) (λi x r c I D hw=>?_) (λc I hn=>?_)
   ·obtain⟨o1,N,o3⟩:=I
    rw[U.liness_cons]at N o3
    rw[length_append]at o3
    have ba:=U.lines_len x (n+1)
    have aw:=U.flats_mem D.mem
    unfold LnSt
    (try simp only[EVz,seval,↓reduceIte,EV6,EV7,D.yes,D.le0,D.lt',D.row,hw,Y,E,J])
    intro b7 O
    have T:¬b7=F:=by simp only[EVK]at O;exact O.1
    (try simp only[EVz,seval,↓reduceIte,EV6,EV7,D.yes,D.le0,D.lt',D.row,hw,Y,E,J,T])
    refine aZ (LnSt M F c.1 (.own c.1 9 1 (c.2.map srow)) c.2.length) [(b7,.cells 27 x.cs)] (v_clo2 G (ih x D.mem (n+1) (hs.kid D.mem) (by omega) M F c.1 _ c.2 o1 (by omega))) (ax.rfl' _) SubN.comm1 ?_
    rintro r' bb ⟨rfl,Z,hk,rfl⟩
    (try simp only[EVz,seval,↓reduceIte,EV6,EV7,hw])
    refine ap D (Z,c.2++x.lines (n+1)) ⟨hk,by have:=N;simp only[append_assoc,nil_append]at this ⊢;exact this,by simp only[length_append];omega⟩ (Weak.sub SubN.left)
   ·obtain⟨o1,N,o3⟩:=I
    rw[U.liness,append_nil]at N
    (try simp only[EVz,seval,↓reduceIte,EV6,EV7,hn])
    (try rw[nil_append]at N)
    exact RET.mk (SubN.refl _) ⟨rfl,c.1,by rw[N];exact o1,by rw[N];rfl⟩)
 ·(repeat' (first|(with_reducible refine aa hL ?_)|simp only[EVz,seval,↓reduceIte,EV6,EV7,E,J,ah]|simp only[EVz,seval,↓reduceIte,EV6,EV7,E,J]|(with_reducible intro an V;(try(have X:=V;simp only[EVK]at X;(have ah:=X))))|(with_reducible first|refine ae ?_ ?_|refine af ?_)|(refine⟨[[.str (lineOf u n)]],rfl,(by simp),rfl,?_⟩)|(refine nV (n:=0) (m':=1) [_,_] (by rfl) (by simp) (by simp) (by omega) (by omega) rfl (by assumption) (by omega) (λgn ac=>?_))))
  all_goals(
   refine ay (ι:=Option Nat×List (List UInt8)) u.kids (λi r c=>LnOk M F c.1 (.own c.1 9 1 (c.2.map srow)) c.2/\[]++u.lines n=c.2++U.liness (n+1) r/\c.2.length+(U.liness (n+1) r).length<=1000000)
    (λi c=>[(1,.int .i64 n),(3,.sc (.pointer (some ⟨F,0,none⟩))),(15,.lst 8 (u.kids.map U.cs)),(16,.int .i64 u.kids.length),(17,.int .i64 i)])
    (λi c=>LnSt M F c.1 (.own c.1 9 1 (c.2.map srow)) c.2.length) (gn,[lineOf u n]) ⟨⟨.inl rfl,λd hd=>by have:=ac d hd;simp[Store.keys]at this;exact⟨this.2,this.1⟩,E⟩,by rw[U.lines_eq];simp,by have:=al;simp only[U.lines_eq,length_cons,length_append,length_nil]at*;omega⟩
    (by simp only[LnSt,map_append,map_cons,map_nil,length_append,length_cons,length_nil,srow];exact Weak.rfl' _ _) (by omega) (λi x r c I D hw=>?_) (λc I hn=>?_)
   ·obtain⟨o1,N,o3⟩:=I
    rw[U.liness_cons]at N o3
    rw[length_append]at o3
    have ba:=U.lines_len x (n+1)
    have aw:=U.flats_mem D.mem
    unfold LnSt
    (try simp only[EVz,seval,↓reduceIte,EV6,EV7,D.yes,D.le0,D.lt',D.row,hw,Y,E,J])
    intro b7 O
    have T:¬b7=F:=by simp only[EVK]at O;exact O.1
    (try simp only[EVz,seval,↓reduceIte,EV6,EV7,D.yes,D.le0,D.lt',D.row,hw,Y,E,J,T])
    refine aZ (LnSt M F c.1 (.own c.1 9 1 (c.2.map srow)) c.2.length) [(b7,.cells 27 x.cs)] (v_clo2 G (ih x D.mem (n+1) (hs.kid D.mem) (by omega) M F c.1 _ c.2 o1 (by omega))) (ax.rfl' _) SubN.comm1 ?_
    rintro r' bb ⟨rfl,Z,hk,rfl⟩
    (try simp only[EVz,seval,↓reduceIte,EV6,EV7,hw])
    refine ap D (Z,c.2++x.lines (n+1)) ⟨hk,by have:=N;simp only[append_assoc,nil_append]at this ⊢;exact this,by simp only[length_append];omega⟩ (Weak.sub SubN.left)
   ·obtain⟨o1,N,o3⟩:=I
    rw[U.liness,append_nil]at N
    (try simp only[EVz,seval,↓reduceIte,EV6,EV7,hn])
    (try rw[nil_append]at N)
    exact RET.mk (SubN.refl _) ⟨rfl,c.1,by rw[N];exact o1,by rw[N];rfl⟩)
theorem f278 (u:U) (N:u.Short):ag G Tryz.prog 278 [.agg u.cs] [] (λr σ'=>(shapeOk u=false/\r= .nil)\/(shapeOk u=true/\∃g,r= .own g 9 1 ((u.lines 0).map srow))):=by
 have O:=f307 G u N
 have D:=f200 G hG u.strip (jw N)
 rw[kQ]at D
 have Z:=N.1.2
 refine ag.w c278 ?_
 unfold s278 r278
 cases F:shapeOk u with
 |false=>
  rw[F]at D
  (repeat' (first|(with_reducible first|refine aa O ?_|refine aa D ?_)|simp only[EVz,seval,↓reduceIte,EV6,EV7]))
  exact RET.mk (SubN.nil _) (by simp)
 |true=>
  rw[F]at D
  (try simp only[EVz,seval,↓reduceIte,EV6,EV7,O])
  refine aa O ?_
  (try simp only[EVz,seval,↓reduceIte,EV6,EV7])
  refine aa D ?_
  (try simp only[EVz,seval,↓reduceIte,EV6,EV7])
  intro J X I E
  have M:¬I=J:=by simp only[EVK]at E;exact E
  have T:¬J=I:=λe=>M e.symm
  (try simp only[EVz,seval,↓reduceIte,EV6,EV7,M,T])
  have V:=f308 G hG u 0 N (by omega) J I none .nil [] ⟨.inr ⟨rfl,rfl,rfl⟩,by simp,M⟩ (by simp;omega)
  refine aZ (LnSt J I none .nil 0) [] (v_clo2 G V) (ax.rfl' _) (by rw[append_nil];exact SubN.refl _) ?_
  rintro r σ' ⟨rfl,Y,_,rfl⟩
  unfold LnSt
  (try simp only[EVz,seval,↓reduceIte,EV6,EV7,M,T])
  exact RET.mk (SubN.nil _) (by simp)
theorem f248 (u:U) (M:u.Short):Pure G Tryz.prog 248 [.agg u.cs] (.tup [.str (textOf u).1,.int .i64 (textOf u).2]):=by
 have O:=f278 G hG u M
 have T:=M.1.2
 have J:=U.lines_len u 0
 have D:1<=(u.lines 0).length:=by rw[J];exact u.flat_pos
 have V:=ka (u.lines 0) (by intro e;rw[e]at D;simp at D)
 have Y:=textT_len u T
 have F:Lib.join (u.lines 0) [10]++[10]=textT u:=V
 have X:(Lib.join (u.lines 0) [10]).length+1=(textT u).length:=by rw[←F];simp
 refine Pure.w c248 λR E=>?_
 unfold s248 r248
 (try simp only[EVz,seval,↓reduceIte,EV6,EV7])
 refine aZ [] [] O.v (ax.rfl' _) (SubN.refl _) ?_
 rintro r σ' (⟨hsh,rfl⟩|⟨hsh,g,rfl⟩)
 ·have I:textOf u=([],1):=by unfold textOf;rw[hsh];rfl
  rw[I]at E
  (try simp only[EVz,seval,↓reduceIte,EV6,EV7])
  exact RET.eq E rfl
 ·have I:textOf u=if (16384:Int)<(textT u).length then ([],6)else (textT u,0):=by unfold textOf;rw[hsh];rfl
  rw[I]at E
  have Z:decide (((u.lines 0).length:Int)=0)=false:=decide_eq_false (by omega)
  have N:=f279 G g (u.lines 0) [10] (by omega) (by omega)
  (repeat' (first|(with_reducible (refine ab (λh=>?_) (λh=>?_))<;>(try simp only[DZ]at h))|(with_reducible first|refine AI (by omega) ?_|refine aa N ?_)|simp only[EVz,seval,↓reduceIte,EV6,EV7,Z,F,length_cons,length_nil]))
  ·rw[if_pos (by omega)]at E
   exact RET.eq E rfl
  ·rw[if_neg (by omega)]at E
   exact RET.eq E rfl
end
end Go.Av
namespace Go.Av
open Go Go.RowKit Go.MapKept List
set_option linter.unusedSimpArgs false
set_option linter.unusedVariables false
section
variable {G:Glob} {P:Program} {env:Env} {σ:Store} {K:AV->Store->Prop} {κ:Type} [DecidableEq κ] {kT:TypeId} {val:κ->Value}
theorem m0 (k:Int):∀(l:List Int) (ents:List MapEntry) (i:Nat),ents.map (·.key)=l.map (λn=>Value.int .i64 n)->
  Instr.findNow (.int .i64) (.int .i64 k) ents i=some ((((l.zip ents).zipIdx i).find? λq=>decide (q.1.1=k)).map λq=>(q.2,q.1.2.val))
 |[],[],i,_=>by simp[Instr.findNow]
 |[],e::es,i,h=>by simp at h
 |b::l,[],i,h=>by simp at h
 |b::l,e::es,i,h=>by
  simp only[map_cons,List.cons.injEq]at h
  simp only[Instr.findNow,h.1,Instr.sameNow,if_true,zip_cons_cons,zipIdx_cons,find?_cons]
  by_cases D:k=b
  ·subst D;simp
  ·have E:(k==b)=false:=by simpa using D
   have F:decide (b=k)=false:=by simp;exact λe=>D e.symm
   simp only[E,F]
   exact m0 k l es (i+1) h.2
theorem mapK_int (D:P.underlying kT=some (.int .i64)):MapK P kT (λn:Int=>Value.int .i64 n) where
 ck em k w:=run_checkKey D (by simp[IsKey]) em 9999
 find k l ents w he:=run_findKey D (m0 k l ents 0 he)
 stays k w:=run_keyThatStays (d:=.int .i64) (by simp[IsKey])
theorem cA (M:MapK P kT val) {E eT:TypeId} {x D y:Operand} {b:Nat} {l:List (κ×AV)} {k:κ} {yv:AV} (X:(SOpd.of x).eval G env= .sc (.map (some b)))
  (F:∀τ w v,Rep τ w ((SOpd.of D).eval G env) v->v=val k) (Y:(SOpd.of y).eval G env=yv) (V:P.underlying E=some (.map kT eT)) (N:σ.get b=some (.map (cl val l)))
  (O:K aC (σ.set b (.map (cl val (dj k yv l))))):RAW G P (.insert E x D y) env σ K ⟨⟩:=by
 intro ρ w a o T J I
 have h:=eU (K:=K) M X F Y V N O ρ w a {o with op:=.mapUpdate E x D y} rfl J I
 have e:execOp a.eval {o with op:=.mapUpdate E x D y}=execOp a.eval o:=by simp[execOp,T]
 rwa [e]at h
end
end Go.Av
namespace Go.Av
open Go Go.RowKit Go.Proofs List
set_option linter.unusedSimpArgs false
set_option linter.unusedVariables false
section
variable (G:Glob) (hG:GOk G)
include hG
theorem f168 (u:U) (F:u.Short):Pure G Tryz.prog 168 [.agg u.cs] (.bool (bareOk u&&(decide (u.kind≠0)&&decide ((textOf u).2=0)))):=by
 have I:=f248 G hG u F
 have D:=f249 G hG u F
 rw[←gZ]at D
 refine Pure.w c168 λR E=>?_
 unfold s168 r168
 (repeat' (first|(with_reducible (refine ai (λh=>?_) (λh=>?_))<;>(try simp only[DZ]at h))|(with_reducible first|refine aa I ?_|refine aa D ?_)|simp only[EVz,seval,↓reduceIte,EV6,EV7]))
 (all_goals(first|(refine RET.eq E ?_;(refine congrArg AV.bool (Bool.eq_iff_iff.2 ?_);simp only[EVB]at*;omega))|(refine RET.eq E ?_;((simp_all[];done)))))
theorem f166 (x:Itm) (F:x.unit.Short):Pure G Tryz.prog 166 [.agg x.cs] (.bool (inR x.wh 0 3&&(bareOk x.unit&&(decide (x.unit.kind≠0)&&decide ((textOf x.unit).2=0))))):=by
 have E:=f168 G hG x.unit F
 refine Pure.w c166 λR D=>?_
 unfold s166 r166
 generalize (bareOk x.unit&&(decide (x.unit.kind≠0)&&decide ((textOf x.unit).2=0)))=q at*
 (repeat' (first|(with_reducible (refine ai (λh=>?_) (λh=>?_))<;>(try simp only[DZ]at h))|(with_reducible first|refine aa (f167 G _) ?_|refine aa E ?_)|simp only[EVz,seval,↓reduceIte,EV6,EV7,U.cs_fold]))
 (all_goals(((refine RET.eq D ?_;((simp_all[];done))))))
end
section
variable (G:Glob)
theorem f172 (x:Itm) (q:x.Short1):Pure G Tryz.prog 172 [.agg x.cs] (.bool (cX x.old 1&&(cX x.new 0&&inR x.nth 0 256))):=by
 have F:=λn=>f173 G x.old n (by have:=q.old;omega)
 have E:=λn=>f173 G x.new n (by have:=q.new;omega)
 refine Pure.w c172 λR D=>?_
 unfold s172 r172
 unfold cX at*
 (repeat' (first|(with_reducible (refine ai (λh=>?_) (λh=>?_))<;>(try simp only[DZ]at h))|(with_reducible first|refine aa (F _) ?_|refine aa (E _) ?_|refine aa (f174 G x) ?_)|simp only[EVz,seval,↓reduceIte,EV6,EV7]))
 (all_goals(((refine RET.eq D ?_;first|(simp_all[];done)|grind))))
theorem f176 (x:Itm) (q:x.Short1):Pure G Tryz.prog 176 [.agg x.cs] (.bool (cX x.old 0&&(cX x.new 1&&(inR x.nth 0 256&&(decide (0<(x.old.length:Int))||decide (x.nth=0)))))):=by
 have I:=f173 G x.old 0 (by have:=q.old;omega)
 have F:=f173 G x.new 1 (by have:=q.new;omega)
 refine Pure.w c176 λR E=>?_
 unfold s176 r176
 unfold cX at*
 generalize (dq x.old&&decide ((0:Int)<=(x.old.length:Int)))=q1 at*
 generalize (dq x.new&&decide ((1:Int)<=(x.new.length:Int)))=q2 at*
 have D:=f174 G x
 generalize inR x.nth 0 256=q3 at*
 (repeat' (first|(with_reducible (refine ai (λh=>?_) (λh=>?_))<;>(try simp only[DZ]at h))|(with_reducible first|refine aa I ?_|refine aa F ?_|refine aa D ?_)|simp only[EVz,seval,↓reduceIte,EV6,EV7]))
 (all_goals(((refine RET.eq E ?_;((simp_all[];done))))))
theorem f178 (x:Itm) (q:x.Short1):Pure G Tryz.prog 178 [.agg x.cs] (.bool (cX x.new 0)):=by
 have E:=λn=>f173 G x.new n (by have:=q.new;omega)
 refine Pure.w c178 λR D=>?_
 unfold s178 r178
 unfold cX at*
 (repeat' (first|(with_reducible refine aa (E _) ?_)|simp only[EVz,seval,↓reduceIte,EV6,EV7]))
 (all_goals((exact RET.eq D rfl)))
theorem f180 (x:Itm):Pure G Tryz.prog 180 [.agg x.cs] (.bool (br x.label)):=by
 refine Pure.w c180 λR D=>?_
 unfold s180 r180
 (repeat' (first|(with_reducible refine aa (f129 G _) ?_)|simp only[EVz,seval,↓reduceIte,EV6,EV7]))
 (all_goals((exact RET.eq D rfl)))
theorem f182 (x:Itm) (q:x.Short1):Pure G Tryz.prog 182 [.agg x.cs] (.bool (inR x.wh 0 3&&dU x.to_)):=by
 have E:=f100 G x.to_ q.to_
 refine Pure.w c182 λR D=>?_
 unfold s182 r182
 (repeat' (first|(with_reducible (refine ai (λh=>?_) (λh=>?_))<;>(try simp only[DZ]at h))|(with_reducible first|refine aa (f167 G _) ?_|refine aa E ?_)|simp only[EVz,seval,↓reduceIte,EV6,EV7]))
 (all_goals(((refine RET.eq D ?_;((simp_all[];done))))))
theorem f184 (x:Itm) (q:x.Short1):Pure G Tryz.prog 184 [.agg x.cs] (.bool (ii x.event&&inR x.day 0 1048576)):=by
 have E:=f101 G x.event q.event
 refine Pure.w c184 λR D=>?_
 unfold s184 r184
 (repeat' (first|(with_reducible (refine ai (λh=>?_) (λh=>?_))<;>(try simp only[DZ]at h))|(with_reducible first|refine aa (f185 G _ _ _) ?_|refine aa E ?_)|simp only[EVz,seval,↓reduceIte,EV6,EV7]))
 (all_goals(((refine RET.eq D ?_;((simp_all[];done))))))
theorem f187 (x:Itm) (q:x.Short1) (M:∀y∈x.by_,Pure G Tryz.prog 47 [.agg y.cs] (.bool y.may)):
  Pure G Tryz.prog 187 [.agg x.cs] (.bool (inR x.act 1 1048576&&(inR x.item 0 31&&Itm.mayOne x.by_))):=by
 refine Pure.w c187 λR E=>?_
 unfold s187 r187
 have F:=f188 G x 0
 generalize inR x.act 1 1048576=q1 at*
 generalize inR x.item 0 31=q2 at*
 rcases D:x.by_ with _|⟨y,_|⟨z,l⟩⟩
 ·rw[D,Itm.mayOne]at E
  (repeat' (first|(with_reducible (refine ai (λh=>?_) (λh=>?_))<;>(try simp only[DZ]at h))|(with_reducible refine aa F ?_)|simp only[EVz,seval,↓reduceIte,EV6,EV7,D,map_nil,length_nil]))
  (all_goals(((refine RET.eq E ?_;((simp_all[];done))))))
 ·rw[D,Itm.mayOne_cons]at E
  have I:=M y (by rw[D];simp)
  (repeat' (first|(with_reducible (refine ai (λh=>?_) (λh=>?_))<;>(try simp only[DZ]at h))|(with_reducible first|refine aa F ?_|refine aa (f48 G _) ?_|refine aa I ?_)|simp only[EVz,seval,↓reduceIte,EV6,EV7,D,map_cons,map_nil,length_nil,length_cons,getD_cons_zero]))
  (all_goals(((refine RET.eq E ?_;((simp_all[];done))))))
 ·rw[D,Itm.mayOne_cons]at E
  have J:decide (((x.by_.length:Nat):Int)=1)=false:=by rw[D];simp;omega
  (repeat' (first|(with_reducible (refine ai (λh=>?_) (λh=>?_))<;>(try simp only[DZ]at h))|(with_reducible refine aa F ?_)|simp only[EVz,seval,↓reduceIte,EV6,EV7,J]))
  (all_goals(((refine RET.eq E ?_;((simp_all[];done))))))
end
end Go.Av
