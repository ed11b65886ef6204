/-
  LINT, 16: lines by the reference.
-/
import Derived.Test.YtppjieiiibgagaaGreatDoorWXL13toXL15
import Derived.Test.YtppjieiiibgagaaGreatDoorCards
import Derived.Test.YtppjieiiibgagaaGreatDoorTie
import Derived.WalkKit
import Derived.ProofKit
import Derived.OpenShut
import Derived.Carry
import Derived.LaidSub
import Derived.Deep.DeepHandedRow
import Derived.Test.YtppjieiiibgagaaGreatDoorWXAv26toXGlob
import Derived.JoinedCond
import Derived.Deep.DeepWitnessRowRef
import Derived.Test.YtppjieiiibgagaaGreatDoorWShelf
import Derived.Test.YtppjieiiibgagaaGreatDoorWXL5toXL8
import Derived.Test.YtppjieiiibgagaaGreatDoorWXL9toXL12
import Derived.Lib.Split
import Derived.Lib.SplitLaws
import Derived.Lib.AppendIntMem
import Derived.Shelf.Vars
set_option linter.all false
namespace Go.Av
open Go Go.RowKit Go.Proofs List
section
def kindNames:List (List UInt8):=[[98,111,111,107],[112,97,114,116],[115,101,99,116,105,111,110],[112,97,114,97,103,114,97,112,104],[116,97,98,108,101],[114,111,119],[99,101,108,108],[110,111,116,101]]
def fV (k:Int):List UInt8:=kindNames.getD k.toNat []
def escT (t:List UInt8):List UInt8:=if t.getD 0 0=124\/t.getD 0 0=92 then 92::t else t
def ce (l:List Wd):List UInt8:=l.flatMap λw=>32::escT w.text
def m9 (u:U) (n:Nat):List UInt8:=
 List.replicate (2*n) 32++(fV u.kind++((if u.kind=0 then []else 32::u.label)++((if (0:Int)<u.head.length then 58::ce u.head else [])++(if (0:Int)<u.words.length then 32::124::ce u.words else []))))
def cq (u:U) (n:Nat):List UInt8:=if n<=8/\cx u=true then m9 u n else []
mutual
def U.lines:Nat->U->List (List UInt8)
 |n,⟨i,k,l,h,w,ks⟩=>cq ⟨i,k,l,h,w,ks⟩ n::U.liness (n+1) ks
def U.liness:Nat->List U->List (List UInt8)
 |_,[]=>[]
 |n,u::us=>U.lines n u++U.liness n us
end
def rY (u:U) (n:Nat):u.lines n=cq u n::U.liness (n+1) u.kids:=by cases u;rw[U.lines]
def rW (u:U) (us:List U) (n:Nat):U.liness n (u::us)=u.lines n++U.liness n us:=by rw[U.liness]
def rZ:∀(u:U) (n:Nat),(u.lines n).length=u.flat.length:=by
 refine U.ind λu ih n=>?_;rw[rY,U.flat_eq];simp only[length_cons];congr 1
 have:∀us:List U,(∀k∈us,∀m,(k.lines m).length=k.flat.length)->(U.liness (n+1) us).length=(U.flats us).length:=by
  intro us
  induction us with
  |nil=>intro _;rfl
  |cons a us iha=>intro h;rw[rW,U.flats,length_append,length_append,h a (by simp),iha λk D=>h k (by simp[D])]
 exact this _ ih
def mh {l:List Wd} (h:aX l=true) {w:Wd} (E:w∈l):0<w.text.length/\w.text.length<=24:=by
 unfold aX at h;simp only[Bool.and_eq_true,decide_eq_true_eq,all_eq_true]at h;have D:=h.2 w E;unfold wdOk bJ at D;simp only[Bool.and_eq_true,decide_eq_true_eq]at D;omega
def nP {l:List Wd} (h:aX l=true):l.length<=256:=by
 unfold aX at h;simp only[Bool.and_eq_true,decide_eq_true_eq,all_eq_true]at h;omega
def escT_len (t:List UInt8):(escT t).length<=t.length+1:=by unfold escT;split<;>simp
def l0:∀{l:List Wd},(∀w∈l,0<w.text.length/\w.text.length<=24)->(ce l).length<=l.length*26
 |[],_=>by simp[ce]
 |w::l,h=>by
  have E:=(h w (by simp)).2;have F:=l0 (l:=l) λx D=>h x (by simp[D]);have I:=escT_len w.text;unfold ce at*;simp only[flatMap_cons,length_append,length_cons];omega
def gk (k:Int):(fV k).length<=9:=by
 unfold fV
 have:∀n:Nat,(kindNames.getD n []).length<=9:=λn=>by
  match n with
  |0|1|2|3|4|5|6|7=>decide
  |n+8=>simp[kindNames]
 exact this _
def gW {u:U} (h:cx u=true):0<=u.kind/\u.kind<=7/\aX u.head=true/\aX u.words=true/\u.label.length<=9:=by
 unfold cx at h;split at h
 ·rename_i O;simp only[Bool.and_eq_true,decide_eq_true_eq]at h;obtain⟨E,F,D⟩:=h;have I:u.head=[]:=length_eq_zero_iff.1 (by omega);have J:u.words=[]:=length_eq_zero_iff.1 (by omega);rw[I,J,E];exact⟨by omega,by omega,by decide,by decide,by simp⟩
 ·simp only[Bool.and_eq_true,decide_eq_true_eq]at h;obtain⟨E,F,D,M,N⟩:=h;refine⟨by omega,F,M,N,?_⟩;unfold bA at D;simp only[Bool.and_eq_true,decide_eq_true_eq]at D;omega
def lH {k:Int} (D:0<=k) (E:k<=7):(kindNames.map srow).getD k.toNat []=[.str (fV k)]:=by
 have h:k=0\/k=1\/k=2\/k=3\/k=4\/k=5\/k=6\/k=7:=by omega
 rcases h with rfl|rfl|rfl|rfl|rfl|rfl|rfl|rfl<;>rfl
def kind_lt {k:Int} (D:k<=7):k<(kindNames.length:Int):=by show k<8;omega
def dX {l:List Wd} (h:aX l=true):(ce l).length<=6656:=by
 have:=l0 λw D=>mh h D;have:=nP h;omega
section
variable (G:Glob)
def f361:Pure G Tryz.prog 361 [] (.lst 1 (kindNames.map srow)):=by
 refine Pure.w c361 λR D=>?_;unfold s361 r361;simp only[EV1,EV2,EV3,EV4,EV5,Option.map_some,decide_true,decide_false,seval,eq_self];intro b E;exact⟨kindNames.map srow,rfl,by simp[srow],rfl,D _ _ (Or.inl (Or.inr ⟨rfl,rfl⟩))⟩
def f362 (l:List Wd) (M:aX l=true):Pure G Tryz.prog 362 [.lst 4 (l.map Wd.cs)] (.str (ce l)):=by
 have hl:=nP M;refine Pure.w c362 λR T=>?_;unfold s362 r362;(repeat' (first|(with_reducible (first|refine ae (λh=>?_) λh=>?_|refine ai (λh=>?_) λh=>?_|refine ax (λh=>?_) λh=>?_)<;>(try simp only[DZ]at h))|(with_reducible refine AI (by omega) ?_)|simp only[EV,seval,length_append,length_cons,length_nil,E.yes,E.le0,E.lt',E.get,E.row,Z]|simp only[EV,seval,length_append,length_cons,length_nil,X]|simp only[EV,seval,length_append,length_cons,length_nil]|(with_reducible intro N I;(try(have F:=I;simp only[EVK]at F;first|(have J:=AI F J)|(have J:=F))))|(with_reducible first|refine af ?_ ?_|refine ag ?_)|(refine ap (ι:=List UInt8) (l) (λi r c=>ce l=c++ce r/\c.length<=i*26) (λi c=>[(0,.lst 4 (l.map Wd.cs)),(3,.str c),(4,.i i)]) (λ_ _=>[]) ([]) (by first|rfl|(simp;done)|(simp[*];done)|(simp;omega)|omega) (a0 _ _) (by omega) (λi x r c D E Z=>?_) (λc D X=>?_)<;>(try(obtain⟨hp,Y⟩:=mh M E.mem;have V:=E.lt)))|(refine ak E _ ?_ (a0 _ _))|(refine ak E _ ?_ (Weak.sub (SubN.nil _)))|(exfalso;omega)))
 ·rw[D.1]
  have e:escT x.text=92::x.text:=by unfold escT;rw[if_pos];right;exact UInt8.toNat_inj.1 (by show _=92;omega)
  exact⟨by simp[ce,e],by omega⟩
 ·rename_i O;rw[D.1]
  have e:escT x.text=x.text:=by
   unfold escT;rw[if_neg];rintro(h3|h3)
   ·exact O (by rw[h3];rfl)
   ·exact h (by rw[h3];rfl)
  exact⟨by simp[ce,e],by omega⟩
 ·rw[D.1]
  have e:escT x.text=92::x.text:=by unfold escT;rw[if_pos];left;exact UInt8.toNat_inj.1 (by show _=124;omega)
  exact⟨by simp[ce,e],by omega⟩
 ·exact RET.eq T (by rw[D.1];simp[ce])
def f327 (u:U) (n:Nat) (hs:u.Short) (hn:n<=1000000):Pure G Tryz.prog 327 [.agg u.cs,.i n] (.str (cq u n)):=by
 have O:=hs.2 u u.flat_self;obtain⟨l,hl⟩:∃l:List Unit,l.length=n:=⟨List.replicate n (),by simp⟩;subst hl;refine Pure.w c327 λR M=>?_;unfold s327 r327;have J:=f326 G u O.1 O.2.1 O.2.2.1 O.2.2.2.1 O.2.2.2.2;by_cases X:cx u=true
 ·obtain⟨Y,V,ah,aw,al⟩:=gW X;have b1:=dX ah;have b2:=dX aw;have b3:=gk u.kind;have ad:=kind_lt V;rw[X]at J
  have ea:cq u l.length=if l.length<=8 then m9 u l.length else []:=by unfold cq;simp[X]
  rw[ea]at M;(repeat' (first|(with_reducible (first|refine ae (λh=>?_) λh=>?_|refine ai (λh=>?_) λh=>?_|refine ax (λh=>?_) λh=>?_)<;>(try simp only[DZ]at h))|(with_reducible first|refine AI (by omega) ?_|refine ab J ?_|refine ab (f361 G) ?_|refine ab (f362 G u.head ah) ?_|refine ab (f362 G u.words aw) ?_)|simp only[EV,seval,length_append,length_cons,length_nil,lH Y V,N.yes,N.le0,N.lt',N.get,N.row,hw]|simp only[EV,seval,length_append,length_cons,length_nil,lH Y V,hn]|simp only[EV,seval,length_append,length_cons,length_nil,lH Y V]|(with_reducible intro Z F;(try(have E:=F;simp only[EVK]at E;first|(have I:=AI E I)|(have I:=E))))|(with_reducible first|refine af ?_ ?_|refine ag ?_)|(refine ap (ι:=List UInt8) (l) (λi r c=>c=List.replicate (2*i) 32) (λi c=>[(1,.i l.length),(2,.ref u.cs),(5,.str c),(6,.i i)]) (λ_ _=>[]) ([]) (by first|rfl|(simp;done)|(simp[*];done)|(simp;omega)|omega) (a0 _ _) (by omega) (λi x r c D N hw=>?_) (λc D hn=>?_)<;>(try((try have ac:=N.lt);have aa:=congrArg List.length D;rw[length_replicate]at aa)))|(refine ak N _ ?_ (a0 _ _))|(refine ak N _ ?_ (Weak.sub (SubN.nil _)))|(exfalso;omega)))
  ·rw[D];simp[Nat.mul_add,replicate_succ',append_assoc]
  all_goals(refine RET.eq M (congrArg AV.str ?_);(try unfold m9);(repeat first|rw[if_pos (by omega)]|rw[if_neg (by omega)]);(try rw[D]);(try simp))
 ·have T:cx u=false:=by simpa using X
  rw[T]at J
  have ea:cq u l.length=[]:=by unfold cq;simp[T]
  rw[ea]at M;(repeat' (first|(with_reducible (first|refine ae (λh=>?_) λh=>?_|refine ai (λh=>?_) λh=>?_|refine ax (λh=>?_) λh=>?_)<;>(try simp only[DZ]at h))|(with_reducible first|refine AI (by omega) ?_|refine ab J ?_)|simp only[EV,seval]|(with_reducible intro Z F;(try(have E:=F;simp only[EVK]at E;first|(have I:=AI E I)|(have I:=E))))|(with_reducible first|refine af ?_ ?_|refine ag ?_)|(exfalso;omega)));(all_goals(first|(exact RET.eq M rfl)|rfl|(refine RET.eq M ?_;(refine congrArg AV.bool (Bool.eq_iff_iff.2 ?_);simp only[EVB]at*;omega))|(refine RET.eq M ?_;first|(simp only[D,h,EVC,decide_true,decide_false];done)|(simp only[D,EVC,decide_true,decide_false];done)|(simp only[D,EVC,decide_true,decide_false];refine congrArg AV.bool (decide_eq_decide.2 ?_);omega)|(simp_all[];done)|(simp_all[];omega)|grind|(norm_cast at*;simp_all[];done)|(norm_cast at*;simp_all[];omega))|(refine M _ _ (Or.inl (Or.inr ⟨rfl,?_⟩));simp[];done)|(refine M _ _ (Or.inr ?_);simp[*,aY,aT,dT,b0,];done)|(rw[D];simp only[h,EVC,decide_true,decide_false];done)|(rw[D];simp only[EVC,decide_true,decide_false];done)|(simp_all[];done)|(simp_all[];omega)|grind|(norm_cast at*;simp_all[];done)|(norm_cast at*;simp_all[];omega)))
def qD (u:U) (n:Nat):(cq u n).length<=20000:=by
 unfold cq;split
 ·rename_i h;obtain⟨F,I,D,E,J⟩:=gW h.2;have M:=dX D;have N:=dX E;have O:=gk u.kind;unfold m9;simp only[length_append,length_replicate]
  have c1:(if u.kind=0 then []else 32::u.label).length<=10:=by split<;>simp;omega
  have c2:(if (0:Int)<u.head.length then 58::ce u.head else []).length<=6657:=by split<;>simp;omega
  have c3:(if (0:Int)<u.words.length then 32::124::ce u.words else []).length<=6658:=by split<;>simp;omega
  omega
 ·simp
def f259:∀(u:U) (n:Nat),u.Short->n+u.flat.length<=1000000->Pure G Tryz.prog 259 [.agg u.cs,.i n] (.lst 1 ((u.lines n).map srow)):=by
 refine U.ind λu ih n O X=>?_;have aa:=O.1.kids
 have V:u.flat.length=1+(U.flats u.kids).length:=by rw[U.flat_eq,length_cons];omega
 have I:IntKind.i64.wrap ((n:Int)+1)=((n+1:Nat):Int):=by rw[av (by omega) (by omega)];omega
 refine Pure.w c259 λR T=>?_;unfold s259 r259;rw[rY]at T;(repeat' (first|(with_reducible (first|refine ae (λh=>?_) λh=>?_|refine ai (λh=>?_) λh=>?_|refine ax (λh=>?_) λh=>?_)<;>(try simp only[DZ]at h))|(with_reducible first|refine AI (by omega) ?_|refine ab (f327 G u n O (by omega)) ?_|refine ab (ih x E.mem (n+1) (O.kid E.mem) (by have:=sj E.mem;omega)) ?_)|simp only[EV,seval,I,E.yes,E.le0,E.lt',E.get,E.row,hw]|simp only[EV,seval,I,X]|simp only[EV,seval,I]|(with_reducible intro N J;(try(have F:=J;simp only[EVK]at F;first|(have M:=AI F M)|(have M:=F))))|(with_reducible first|refine af ?_ ?_|refine ag ?_)|(refine⟨[srow (cq u n)],rfl,(by simp[srow]),(by simp[srow]),?_⟩)|(refine ap (ι:=Option Nat×List (List UInt8)) u.kids (λi r c=>cq u n::U.liness (n+1) u.kids=c.2++U.liness (n+1) r) (λi c=>[(1,.i n),(2,.ref u.cs),(5,.own c.1 9 1 (c.2.map srow)),(6,.i i)]) (λi c=>tokS c.1 9 c.2.length) (some N,[cq u n]) rfl (a0 _ _) (by omega) (λi x r c D E hw=>?_) (λc D X=>?_))|(exfalso;omega)))
 ·have Z:=congrArg List.length D
  have h2:(U.liness (n+1) u.kids).length=(U.flats u.kids).length:=by
   have:=rZ u n;rw[rY,U.flat_eq,length_cons,length_cons]at this;omega
  simp only[length_cons,length_append,rW]at Z;refine cH (m':=(c.2++x.lines (n+1)).length) bL (by simp) (by simp) (by simp;omega) (λY=>?_);exact ak E (Y,c.2++x.lines (n+1)) (by rw[D,rW,append_assoc]) (by simp only[map_append];exact a0 _ _)
 ·exact T _ _ (Or.inl (Or.inr ⟨rfl,by rw[D];simp[U.liness]⟩))
def kG (u:U):List (List UInt8):=if df u then u.lines 0 else []
def gH (u:U):List UInt8:=(u.lines 0).flatMap λl=>l++[10]
def dk (u:U):List UInt8×Int:=if df u then (if (16384:Int)<(gH u).length then ([],6)else (gH u,0))else ([],1)
def km (u:U):∀(n:Nat),∀l∈u.lines n,l.length<=20000:=by
 induction u using U.ind with
 |h u ih=>
  intro n;rw[rY]
  have key:∀us:List U,(∀k∈us,∀m,∀l∈k.lines m,l.length<=20000)->∀l∈U.liness (n+1) us,l.length<=20000:=by
   intro us
   induction us with
   |nil=>intro _ l D;cases D
   |cons a us iha=>
    intro h l D;rw[rW]at D
    rcases mem_append.1 D with D|D
    ·exact h a (by simp) _ l D
    ·exact iha (λk E=>h k (by simp[E])) l D
  intro l D
  rcases mem_cons.1 D with rfl|D
  ·exact qD u n
  ·exact key u.kids ih l D
def f138 (u:U) (I:u.Short):Pure G Tryz.prog 138 [.agg u.cs] (.lst 1 ((kG u).map srow)):=by
 have O:=I.1.2;refine Pure.w c138 λR J=>?_;unfold s138 r138;have N:Pure G Tryz.prog 259 [.agg u.cs,.i 0] (.lst 1 ((u.lines 0).map srow)):=f259 G u 0 I (by omega);(repeat' (first|(with_reducible (first|refine ae (λh=>?_) λh=>?_|refine ai (λh=>?_) λh=>?_|refine ax (λh=>?_) λh=>?_)<;>(try simp only[DZ]at h))|(with_reducible first|refine AI (by omega) ?_|refine ab N ?_|refine ab (f137 G u I) ?_)|simp only[EV,seval]|(with_reducible intro M E;(try(have D:=E;simp only[EVK]at D;first|(have F:=AI D F)|(have F:=D))))|(with_reducible first|refine af ?_ ?_|refine ag ?_)|(refine⟨[],rfl,(by simp),rfl,?_⟩)|(exfalso;omega)))
 ·exact J _ _ (Or.inl (Or.inr ⟨rfl,by rw[kG,h];rfl⟩))
 ·exact RET.eq J (by rw[kG,h];rfl)
def f76 (u:U) (O:u.Short):Pure G Tryz.prog 76 [.agg u.cs] (.tup [.str (dk u).1,.i (dk u).2]):=by
 have hc:=O.1.2;have ac:=rZ u 0;have X:=km u 0;have Z:=f138 G u O;refine Pure.w c76 λR I=>?_;unfold s76 r76;by_cases F:df u=true
 ·have e1:kG u=u.lines 0:=if_pos F
  have V:dk u=if (16384:Int)<(gH u).length then ([],6)else (gH u,0):=if_pos F
  rw[e1]at Z;rw[V]at I;unfold gH at I;generalize u.lines 0=l at*;(repeat' (first|(with_reducible (first|refine ae (λh=>?_) λh=>?_|refine ai (λh=>?_) λh=>?_|refine ax (λh=>?_) λh=>?_)<;>(try simp only[DZ]at h))|(with_reducible first|refine AI (by omega) ?_|refine ab (f137 G u O) ?_|refine ab Z ?_)|simp only[EV,seval,F,length_append,length_cons,length_nil,N.yes,N.le0,N.lt',N.get,N.row,hw]|simp only[EV,seval,F,length_append,length_cons,length_nil,hn]|simp only[EV,seval,F,length_append,length_cons,length_nil]|(with_reducible intro T J;(try(have E:=J;simp only[EVK]at E;first|(have M:=AI E M)|(have M:=E))))|(with_reducible first|refine af ?_ ?_|refine ag ?_)|(refine ap (ι:=List UInt8) (l) (λi r c=>(l.flatMap λl=>l++[10])=c++(r.flatMap λl=>l++[10])/\c.length<=i*20001) (λi c=>[(4,.lst 1 (l.map srow)),(5,.str c),(6,.i i)]) (λ_ _=>[]) ([]) (by first|rfl|(simp;done)|(simp[*];done)|(simp;omega)|omega) (a0 _ _) (by omega) (λi x r c D N hw=>?_) (λc D hn=>?_)<;>(try((try have ad:=X _ N.mem);(try have aa:=N.lt))))|(refine ak N _ ?_ (a0 _ _))|(refine ak N _ ?_ (Weak.sub (SubN.nil _)))|(exfalso;omega)))
  ·rw[D.1];exact⟨by simp,by omega⟩
  ·have e:l.flatMap (λl=>l++[10])=c:=by rw[D.1];simp
   rw[e,if_pos (by omega)]at I;exact RET.eq I rfl
  ·have e:l.flatMap (λl=>l++[10])=c:=by rw[D.1];simp
   rw[e,if_neg (by omega)]at I;exact RET.eq I rfl
 ·have V:dk u=([],1):=if_neg F
  have Y:df u=false:=by simpa using F
  rw[V]at I;(repeat' (first|(with_reducible (first|refine ae (λh=>?_) λh=>?_|refine ai (λh=>?_) λh=>?_|refine ax (λh=>?_) λh=>?_)<;>(try simp only[DZ]at h))|(with_reducible first|refine AI (by omega) ?_|refine ab (f137 G u O) ?_)|simp only[EV,seval,Y]|(with_reducible intro T J;(try(have E:=J;simp only[EVK]at E;first|(have M:=AI E M)|(have M:=E))))|(with_reducible first|refine af ?_ ?_|refine ag ?_)|(exfalso;omega)));(all_goals(first|(exact RET.eq I rfl)|rfl|(refine RET.eq I ?_;(refine congrArg AV.bool (Bool.eq_iff_iff.2 ?_);simp only[EVB]at*;omega))|(refine RET.eq I ?_;first|(simp only[D,h,EVC,decide_true,decide_false];done)|(simp only[D,EVC,decide_true,decide_false];done)|(simp only[D,EVC,decide_true,decide_false];refine congrArg AV.bool (decide_eq_decide.2 ?_);omega)|(simp_all[];done)|(simp_all[];omega)|grind|(norm_cast at*;simp_all[];done)|(norm_cast at*;simp_all[];omega))|(refine I _ _ (Or.inl (Or.inr ⟨rfl,?_⟩));simp[];done)|(refine I _ _ (Or.inr ?_);simp[*,aY,aT,dT,b0,];done)|(rw[D];simp only[h,EVC,decide_true,decide_false];done)|(rw[D];simp only[EVC,decide_true,decide_false];done)|(simp_all[];done)|(simp_all[];omega)|grind|(norm_cast at*;simp_all[];done)|(norm_cast at*;simp_all[];omega)))
end
end
structure GOk (G:Glob):Prop where
 names:G.tab 4=some (kindNames.map AV.str)
 below:G.tab 2=some [.lst 1 (([1,2]:List Int).map irow),.lst 1 (([2]:List Int).map irow),.lst 1 (([3,4,7]:List Int).map irow),.lst 1 (([3,4,7]:List Int).map irow),.lst 1 (([5]:List Int).map irow),.lst 1 (([6]:List Int).map irow),.nil,.nil]
 order:G.tab 1=some [.sc (.func (.func 438) #[] #[]),.sc (.func (.func 439) #[] #[])]
def eval_g {G:Glob} {i:Nat} {cs:List AV} (h:G.tab i=some cs):∀env,SOpd.eval G env (.g i)= .ref cs:=by intro env;simp only[SOpd.eval,h]
def lt8 {k:Int} (D:0<=k) (E:k<=7):k=0\/k=1\/k=2\/k=3\/k=4\/k=5\/k=6\/k=7:=by omega
section
variable (G:Glob) (hG:GOk G)
include hG
def f374 (k:Int):Pure G Tryz.prog 374 [.i k] (.str (if 0<=k/\k<=7 then fV k else [])):=by
 have F:=eval_g hG.names;refine Pure.w c374 λR D=>?_;unfold s374 r374;by_cases E:0<=k/\k<=7
 ·rw[if_pos E]at D
  rcases lt8 E.1 E.2 with rfl|rfl|rfl|rfl|rfl|rfl|rfl|rfl<;>((repeat' (simp only[EV,seval,F,kindNames,List.map,Int.toNat,List.drop,List.headD,List.length]));exact RET.eq D rfl)
 ·rw[if_neg E]at D;(repeat' (first|(with_reducible (first|refine ae (λh=>?_) λh=>?_|refine ai (λh=>?_) λh=>?_)<;>(try simp only[DZ]at h))|(with_reducible refine AI (by omega) ?_)|simp only[EV,seval]|(exfalso;omega)));(all_goals((exact RET.eq D rfl)))
def f156 (p k:Int):Pure G Tryz.prog 156 [.i p,.i k] (.bool (nests p k)):=by
 have F:=eval_g hG.below;refine Pure.w c156 λR E=>?_;unfold s156 r156;by_cases I:0<=p/\p<=7
 ·rcases lt8 I.1 I.2 with rfl|rfl|rfl|rfl|rfl|rfl|rfl|rfl
  ·have D:=f265 G [1,2] k (by decide);simp only[List.map]at D;(repeat' (first|(with_reducible refine ab D ?_)|simp only[EV,seval,F,List.drop,List.headD,List.length]));refine RET.eq E ?_;simp[nests]
  ·have D:=f265 G [2] k (by decide);simp only[List.map]at D;(repeat' (first|(with_reducible refine ab D ?_)|simp only[EV,seval,F,List.drop,List.headD,List.length,Int.toNat]));refine RET.eq E ?_;simp[nests]
  ·have D:=f265 G [3,4,7] k (by decide);simp only[List.map]at D;(repeat' (first|(with_reducible refine ab D ?_)|simp only[EV,seval,F,List.drop,List.headD,List.length,Int.toNat]));refine RET.eq E ?_;simp[nests,Bool.or_assoc]
  ·have D:=f265 G [3,4,7] k (by decide);simp only[List.map]at D;(repeat' (first|(with_reducible refine ab D ?_)|simp only[EV,seval,F,List.drop,List.headD,List.length,Int.toNat]));refine RET.eq E ?_;simp[nests,Bool.or_assoc]
  ·have D:=f265 G [5] k (by decide);simp only[List.map]at D;(repeat' (first|(with_reducible refine ab D ?_)|simp only[EV,seval,F,List.drop,List.headD,List.length,Int.toNat]));refine RET.eq E ?_;simp[nests]
  ·have D:=f265 G [6] k (by decide);simp only[List.map]at D;(repeat' (first|(with_reducible refine ab D ?_)|simp only[EV,seval,F,List.drop,List.headD,List.length,Int.toNat]));refine RET.eq E ?_;simp[nests]
  all_goals
   have D:=f265 G [] k (by decide);simp only[List.map]at D
   (repeat' (first|simp only[EV,seval,F,List.drop,List.headD,List.length,Int.toNat]|(refine aS D ⟨.inl (.inr rfl),⟨.inl (.inl rfl),trivial⟩⟩ ?_)))
   refine RET.eq E ?_;simp[nests]
 ·have e:nests p k=false:=by unfold nests;rw[if_neg (by omega),if_neg (by omega),if_neg (by omega),if_neg (by omega),if_neg (by omega)]
  rw[e]at E;(repeat' (first|(with_reducible (refine ai (λh=>?_) λh=>?_)<;>(try simp only[DZ]at h))|(with_reducible refine AI (by omega) ?_)|simp only[EV,seval]|(exfalso;omega)));(all_goals((exact RET.eq E rfl)))
end
end Go.Av
section
namespace Go.Av
open Go Go.RowKit Go.Proofs List
def calls_of {P:Program} {G:Glob} {k:FuncId} {args:List AV} {r:AV} (h:Pure G P k args r) {W:World} (hG:G.holds [] W) {vs:Array Value} (D:RepL [] W args vs.toList):
  Calls P k vs W λe W'=>∃v,e= .returned v/\Rep [] W' r v/\Below W.heap.size W W':=by
 have E:Sat G ([]++[]) W:=⟨by simp[Store.keys],λb x J=>by simp at J,hG⟩
 refine(h.2 [] W vs E D).mono ?_
 rintro e W' ⟨v,M,σ',rfl,⟨rfl,rfl⟩,_,ev,I⟩
 exact⟨v,rfl,I,ev.os,ev.tape,ev.output,ev.size,λk F=>(ev.block k F (by simp[Store.keys])).1⟩
def tab_of {P:Program} {w:World} {F:String} {d:DataW Unit} {g:Nat} {t:TypeId} {D:List AV} (n:Nat) (T:Go.Lib.VarReads P w F d) (E:P.globalNamed F=some g) (V:(P.globals[g]?).map (·.type)=some t) (O:avD P n t d=some D):
  RepAt [] w ⟨g,0,none⟩ 0 D:=by
 obtain⟨X,Y,cs,fuel,p,I,J,M,N⟩:=T
 obtain rfl:=Option.some.inj (E.symm.trans I)
 obtain rfl:=Option.some.inj (V.symm.trans J)
 exact mQ E M (og n t d D O fuel cs.toList p N)
def k8:List AV:=kindNames.map AV.str
def mj:List AV:=[.lst 1 (([1,2]:List Int).map irow),.lst 1 (([2]:List Int).map irow),.lst 1 (([3,4,7]:List Int).map irow),.lst 1 (([3,4,7]:List Int).map irow),.lst 1 (([5]:List Int).map irow),.lst 1 (([6]:List Int).map irow),.nil,.nil]
def js:List AV:=[.sc (.func (.func 438) #[] #[]),.sc (.func (.func 439) #[] #[])]
def GL:Glob:=globOf [(4,k8),(2,mj),(1,js)]
end Go.Av
namespace Go.Proofs.YtppjieiiibgagaaGreatDoor
open Go.ChangeShapes Go.WideShapes Go.ChangeAt Go.RowKit
theorem own:ownKnob Tryz.prog.godebug=none:=by kernel_rfl
def litV:DataW Unit->Value
 | .lit (.int k n)=>.int k n
 |_=>.nilFunc
def litsV:DataW Unit->List Value
 | .agg ds=>ds.map litV
 |_=>[]
theorem gNames:Tryz.prog.globalNamed "pandect/unit.names" =some 4:=by kernel_rfl
theorem gBelow:Tryz.prog.globalNamed "pandect/unit.below" =some 2:=by kernel_rfl
theorem gOrder:Tryz.prog.globalNamed "pandect/syntax.order" =some 1:=by kernel_rfl
theorem tOrder:(Tryz.prog.globals[1]?).map (·.type)=some 170:=by kernel_rfl
theorem has_fn:((List.range Tryz.prog.funcs.size).filter λf=>(Tryz.prog.funcs[f]?).any (·.name.toUTF8.data.toList==112::[97,110,100,101,99,116,47,115,121,110,116,97,120,46,111,114,100,101,114,36,49]))=[438]:=by kernel_rfl
theorem may_fn:((List.range Tryz.prog.funcs.size).filter λf=>(Tryz.prog.funcs[f]?).any (·.name.toUTF8.data.toList==112::[97,110,100,101,99,116,47,115,121,110,116,97,120,46,111,114,100,101,114,36,50]))=[439]:=by kernel_rfl
theorem cells83:Tryz.prog.cellsOf 121=1:=by kernel_rfl
theorem cells35:Tryz.prog.cellsOf 76=1:=by kernel_rfl
theorem order_of {W:World} (h:funcsAt Tryz.prog W "pandect/syntax.order" (.agg [.iface "func" (.lit (.string [112,97,110,100,101,99,116,47,115,121,110,116,97,120,46,111,114,100,101,114,36,49])),.iface "func" (.lit (.string [112,97,110,100,101,99,116,47,115,121,110,116,97,120,46,111,114,100,101,114,36,50]))])):
  Go.Av.RepAt [] W ⟨1,0,none⟩ 0 Go.Av.js:=by
 obtain⟨g,t,cs,fuel,p,Z,ht,hv,Y⟩:=h
 obtain rfl:=Option.some.inj (gOrder.symm.trans Z)
 obtain rfl:=Option.some.inj (tOrder.symm.trans ht)
 obtain⟨xs,n,hn,hx,hl,O,E⟩:=DataW.trod_struct Tryz.underlying170 Y
 have N:cs.toList.length=2:=hl.trans (by kernel_rfl)
 obtain⟨u,v,D⟩:∃u v,cs.toList=[u,v]:=by
  match hcs:cs.toList,N with
  |[u,v],_=>exact⟨u,v,rfl⟩
 have J:DataW.trod (funcToken Tryz.prog) Tryz.prog W 0 (λ_=>true) true n 121 ((cs.toList.drop 0).take (Tryz.prog.cellsOf 121))=xs[0]? :=E 0 _ rfl
 have M:DataW.trod (funcToken Tryz.prog) Tryz.prog W 0 (λ_=>true) true n 76 ((cs.toList.drop 1).take (Tryz.prog.cellsOf 76))=xs[1]? :=E 1 _ rfl
 have X:=congrArg Prod.fst hx
 rw[D]at J M
 simp only[cells83,cells35,List.drop_zero,List.take_succ_cons,List.take_zero,List.drop_succ_cons]at J M
 obtain⟨F,I,rfl⟩:∃F I,xs=[F,I]:=by
  match xs,O with
  |[F,I],_=>exact⟨F,I,rfl⟩
 simp only[List.map_cons,List.map_nil,DataW.funcsOut,DataW.funcsOutAll,DataW.agg.injEq,List.cons.injEq,and_true]at X
 obtain⟨T,V⟩:=X
 have hu:=func_of_trod (q:=F.2) Tryz.underlying121 has_fn (by rw[if_pos (beq_self_eq_true _)]at T;rw[T];exact J)
 have hw:=func_of_trod (q:=I.2) Tryz.underlying76 may_fn (by rw[if_pos (beq_self_eq_true _)]at V;rw[V];exact M)
 subst hu hw
 refine Go.Av.mQ gOrder hv ⟨?_,?_⟩
 ·rw[D]
  simp only[Go.Av.js,Go.Av.RepL,Go.Av.Rep];exact⟨_,_,rfl,rfl,_,_,rfl,rfl,rfl⟩
 ·rw[D]
  simp[Value.oneCell']
noncomputable def tNamesT:TypeId:=((Tryz.prog.globals[4]?).map (·.type)).getD 0
theorem tNames:(Tryz.prog.globals[4]?).map (·.type)=some tNamesT:=by kernel_rfl
theorem tNamesD:Go.Av.avD Tryz.prog 6 tNamesT (Rows.laid_pandect_unit_names (H:=Unit))=some Go.Av.k8:=by kernel_rfl
noncomputable def tBelowT:TypeId:=((Tryz.prog.globals[2]?).map (·.type)).getD 0
theorem tBelow:(Tryz.prog.globals[2]?).map (·.type)=some tBelowT:=by kernel_rfl
theorem tBelowD:Go.Av.avD Tryz.prog 6 tBelowT (Rows.laid_pandect_unit_below (H:=Unit))=some Go.Av.mj:=by kernel_rfl
theorem qo {L:List (String×DataW Unit)} {W:World} (h:laidMetH Tryz.prog L W)
  (F:("pandect/unit.names",Rows.laid_pandect_unit_names (H:=Unit))∈L.filter λx=>x.2.handleName?.isNone)
  (I:("pandect/unit.below",Rows.laid_pandect_unit_below (H:=Unit))∈L.filter λx=>x.2.handleName?.isNone)
  (J:("pandect/syntax.order",Rows.laid_pandect_syntax_order (H:=Unit))∈L):Go.Av.GL.holds [] W:=by
 obtain⟨D,_⟩:=laidMetH_iff.1 h
 intro p E
 simp only[List.mem_cons,List.not_mem_nil,or_false]at E
 rcases E with rfl|rfl|rfl
 ·exact Go.Av.tab_of 6 (Go.Lib.laidMet.reads D F) gNames tNames tNamesD
 ·exact Go.Av.tab_of 6 (Go.Lib.laidMet.reads D I) gBelow tBelow tBelowD
 ·exact order_of (laidMetH.funcs h J)
noncomputable def eF (os:Os):World:=
 let w0:=World.doorLaid Tryz.prog 600 os
 {w0 with heap:=w0.heap.modify 5 (λ
   | .cells _ t frozen=>.cells (litsV Rows.laid_unicode_utf8_first).toArray t frozen
   |o=>o)}
end Go.Proofs.YtppjieiiibgagaaGreatDoor
end
namespace Go.Proofs.YtppjieiiibgagaaGreatDoor
open Go.ChangeShapes Go.WideShapes Go.ChangeAt Go.RowKit
section
theorem and_mk {a b:Bool} (D:a=true) (E:b=true):(a&&b)=true:=by rw[D,E];rfl
theorem cellsU:Tryz.prog.cellsOf 27=8:=by kernel_rfl
theorem cellsD:Tryz.prog.cellsOf 36=28:=by kernel_rfl
abbrev laidL:List (String×DataW Unit):=Rows.undoInversesRow.laid
set_option maxRecDepth 100000
theorem met (os:Os) (args:Array Value):laidMetH Tryz.prog laidL ((eF os).forCall (λ_ _=>0) ⟨#[],args,[]⟩).memory:=
 laidMetH_of_parts3 (fuel:=40) (laidMet_of_run' 40 (by kernel_rfl) (by kernel_rfl)) (by kernel_rfl) (by kernel_rfl)
theorem varsOk (os:Os) (args:Array Value):((eF os).forCall (λ_ _=>0) ⟨#[],args,[]⟩).variablesRefB Tryz.checked.prog=true:=by kernel_rfl
def RestOk (C:Checked) (w0:World) (args:Array Value):Prop:=((w0.forCall (λ_ _=>0) ⟨#[],args,[]⟩).heap.toList.drop C.prog.globals.size).take ((begin C.prog (λ_ _=>0) default).world.heap.size-C.prog.globals.size)=
   (begin C.prog (λ_ _=>0) default).world.heap.toList.drop C.prog.globals.size
theorem restOk (os:Os) (args:Array Value):RestOk Tryz.checked (eF os) args:=by unfold RestOk;kernel_rfl
end
end Go.Proofs.YtppjieiiibgagaaGreatDoor
namespace Go.Av
open Go Go.RowKit Go.Proofs List
structure GOk2 (G:Glob):Prop where
 max:∀τ w,Sat G τ w->∃m,w.cell? ⟨9,0,none⟩=some (.i m)
 pow:∀τ w,Sat G τ w->Lib.TabIs Tryz.prog w "internal/strconv.uint64pow10" .u64 Lib.pow10Tab
section
variable (G:Glob)
def f108 (hG:GOk2 G) (n:Int) (E: -9223372036854775808<=n) (F:n<=9223372036854775807):Pure G Tryz.prog 108 [.i n] (.str (Lib.itoa n)):=by
 refine rV Tryz.func108 (by kernel_rfl) (by kernel_rfl) λτ w vs J I=>?_;obtain⟨u,rfl,D⟩:=vs_one I;simp only[Rep]at D;subst D;refine⟨.string ⟨(Lib.itoa n).toArray⟩,λ_ _=>by simp only[Rep],?_⟩;refine(Tryz.strconv_Itoa n E F w (hG.pow τ w J)).mono ?_;rintro e w' ⟨rfl,k,os,rfl⟩;exact⟨rfl,Lib.below_grow _ _ (Nat.le_refl _) _ _⟩
end
end Go.Av
section
namespace Go.Av
open Go Go.RowKit Go.Proofs List
def ld:List AV:=Lib.pow10Tab.map (AV.int .u64)
def k7:ld.length=20:=rfl
def mI (m:Int):List (Nat×List AV):=[(4,k8),(2,mj),(1,js),(3,ld),(9,[.i m])]
def GA (m:Int):Glob where
 tab:=(globOf (mI m)).tab
 holds σ w:=(∀p∈mI m,RepAt σ w ⟨p.1,0,none⟩ 0 p.2)/\∃e,w.shape? 3=some (e,20)
 ev he h:=⟨λp D=>RepAt.ev he _ _ _ (h.1 p D),h.2.imp λe h=>he.shape _ _ h⟩
 tabs:=λ{σ w g cs} h ht=>(globOf (mI m)).tabs (σ:=σ) (w:=w) (g:=g) (cs:=cs) h.1 ht
def GA_ok (m:Int):GOk (GA m):=⟨rfl,rfl,rfl⟩
def gPow:Tryz.prog.globalNamed "internal/strconv.uint64pow10" =some 3:=by kernel_rfl
def pk {τ:Store} {w:World} {k:IntKind}:∀{zs:List Int} {us:List Value},RepL τ w (zs.map (AV.int k)) us->us=zs.map (Value.int k)
 |[],us,h=>by simpa[RepL]using h
 |z::zs,us,h=>by
  simp only[map_cons,RepL]at h;obtain⟨u,F,rfl,D,E⟩:=h;simp only[Rep]at D;rw[D,pk E,map_cons]
def GA_ok2 (m:Int):GOk2 (GA m) where
 max τ w hS:=by
  have h:=hS.glob.1 (9,[.i m]) (by simp[mI]);simp only[RepAt]at h;obtain⟨⟨u,O,_,M⟩,_⟩:=h;simp only[Rep]at M;subst M;exact⟨m,O.1⟩
 pow τ w hS:=by
  have h:=hS.glob.1 (3,ld) (by simp[mI]);obtain⟨e,D⟩:=hS.glob.2;obtain⟨vs,Y,T,Z,V⟩:=jT h 20 (by rw[k7];exact Nat.le_refl _);have I:=pk (zs:=Lib.pow10Tab) (by simpa[ld,take_of_length_le (show(Lib.pow10Tab.map (AV.int .u64)).length<=20 from Nat.le_refl _)]using T);unfold Lib.TabIs World.var?;rw[gPow];unfold World.shape? at D;simp only[Option.bind_some]
  cases F:w.heap[3]? with
  |none=>rw[F]at D;cases D
  |some o=>
   rw[F]at D
   cases o with
   |cells c el fr=>
    simp only[Option.some.injEq,Prod.mk.injEq]at D ⊢;obtain⟨_,N⟩:=D;apply Array.ext';rw[←I];show c.toList=vs;apply ext_getElem?;intro j;by_cases X:j<20
    ·have E:j<vs.length:=by omega
     have J:=V j vs[j] (getElem?_eq_getElem E);rw[add_lit,Nat.zero_add,cell_of_row w _ j c el fr F]at J;rw[getElem?_eq_getElem E,←J];simp
    ·rw[getElem?_eq_none (l:=c.toList) (by rw[Array.length_toList];omega),getElem?_eq_none (l:=vs) (by omega)]
   |_=>cases D
end Go.Av
namespace Go.Proofs.YtppjieiiibgagaaGreatDoor
open Go.ChangeShapes Go.WideShapes Go.ChangeAt Go.RowKit
noncomputable def tPowT:TypeId:=((Tryz.prog.globals[3]?).map (·.type)).getD 0
theorem tPow:(Tryz.prog.globals[3]?).map (·.type)=some tPowT:=by kernel_rfl
theorem tPowD:Go.Av.avD Tryz.prog 6 tPowT (Rows.laid_internal_strconv_uint64pow10 (H:=Unit))=some Go.Av.ld:=by kernel_rfl
theorem cell7 {W:World} (h:W.ShapedOpen Tryz.prog):∃m,W.cell? ⟨9,0,none⟩=some (.int .i64 m):=
 cell_of_shapedOpen_int (t:=3) (zero:=#[.int .i64 0]) h (of_decide_eq_true (by kernel_rfl)) (by kernel_rfl) rfl (by kernel_rfl) (by kernel_rfl) (by kernel_rfl)
abbrev laidC:List (String×DataW Unit):=Rows.undoInversesRow.laid
theorem memC1:("pandect/unit.names",Rows.laid_pandect_unit_names (H:=Unit))∈laidC.filter λx=>x.2.handleName?.isNone:=
 List.mem_filter.2 ⟨List.mem_of_getElem? (i:=4) rfl,by kernel_rfl⟩
theorem memC2:("pandect/unit.below",Rows.laid_pandect_unit_below (H:=Unit))∈laidC.filter λx=>x.2.handleName?.isNone:=
 List.mem_filter.2 ⟨List.mem_of_getElem? (i:=5) rfl,by kernel_rfl⟩
theorem memC3:("pandect/syntax.order",Rows.laid_pandect_syntax_order (H:=Unit))∈laidC:=List.mem_of_getElem? (i:=6) rfl
theorem memC4:("internal/strconv.uint64pow10",Rows.laid_internal_strconv_uint64pow10 (H:=Unit))∈laidC.filter λx=>x.2.handleName?.isNone:=
 List.mem_filter.2 ⟨List.mem_of_getElem? (i:=2) rfl,by kernel_rfl⟩
theorem holdsA {W:World} (h:laidMetH Tryz.prog laidC W) (Z:W.ShapedOpen Tryz.prog):∃m,(Go.Av.GA m).holds [] W:=by
 obtain⟨m,X⟩:=cell7 Z;have F:=qo h memC1 memC2 memC3;obtain⟨I,_⟩:=laidMetH_iff.1 h;have N:=Go.Lib.laidMet.reads I memC4;have Y:=Go.Av.tab_of 6 N Go.Av.gPow tPow tPowD;refine⟨m,λp E=>?_,?_⟩
 ·simp only[Go.Av.mI,List.mem_cons,List.not_mem_nil,or_false]at E
  rcases E with rfl|rfl|rfl|rfl|rfl
  ·exact F _ (by simp)
  ·exact F _ (by simp)
  ·exact F _ (by simp)
  ·exact Y
  ·simp only[Go.Av.RepAt,Go.Av.Rep];exact⟨⟨_,Go.Av.gh X,rfl,rfl⟩,trivial⟩
 ·obtain⟨g,t,cs,fuel,p,O,T,D,V⟩:=N;obtain rfl:=Option.some.inj (Go.Av.gPow.symm.trans O);obtain rfl:=Option.some.inj (tPow.symm.trans T);have M:=(Go.Av.og 6 tPowT _ _ tPowD fuel cs.toList p V).1.length;rw[Go.Av.k7,Array.length_toList]at M;unfold World.var? at D;rw[Go.Av.gPow]at D;simp only[Option.bind_some]at D;unfold World.shape?
  cases J:W.heap[3]? with
  |none=>rw[J]at D;cases D
  |some o=>
   rw[J]at D
   cases o with
   |cells c el fr=>
    simp only[Option.some.injEq]at D;subst D;exact⟨el,by simp only[M]⟩
   |_=>cases D
end Go.Proofs.YtppjieiiibgagaaGreatDoor
end
namespace Go.Proofs.YtppjieiiibgagaaGreatDoor
open Go.ChangeShapes Go.WideShapes Go.ChangeAt Go.RowKit
theorem pu {P:Program} {c:OpenClaim} (N:c.start= .entering) (h:P.funcs.toList.any Func.goes=false):false=c.goesBy P:=by
 have J:P.funcs.any Func.goes=false:=by rw[←Array.any_toList];exact h
 have F:∀g:FuncId,(P.funcs[g]?).any Func.goes=false:=λg=>by
  cases D:P.funcs[g]? with
  |none=>rfl
  |some fn=>
   have M:fn∈P.funcs.toList:=Array.mem_toList_iff.2 (Array.mem_of_getElem? D);show Func.goes fn=false
   cases E:Func.goes fn with
   |false=>rfl
   |true=>rw[List.any_eq_true.2 ⟨fn,M,E⟩]at h;cases h
 have I:∀f:FuncId,P.goes f=false:=λf=>by
  unfold Program.goes;rw[J,Bool.and_false,Bool.or_false]
  cases E:(P.closure f).any λg=>(P.funcs[g]?).any Func.goes with
  |false=>rfl
  |true=>obtain⟨g,_,D⟩:=List.any_eq_true.1 E;rw[F g]at D;cases D
 unfold OpenClaim.goesBy Program.goesAt Program.goesFrom;rw[N]
 cases P.funcNamed c.func with
 |none=>rfl
 |some f=>simp[I f]
theorem goesAll:Tryz.pinned.checked.prog.funcs.toList.any Func.goes=false:=by kernel_rfl
end Go.Proofs.YtppjieiiibgagaaGreatDoor
