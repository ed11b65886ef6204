/-
  LINT, 3: small functions of the program and of the reference.
-/
import Derived.Test.YtppjieiiibgagaaGreatDoorQXC3toXL2
set_option linter.all false
namespace Go.Av
open Go Go.RowKit Go.Proofs List
def iz:Itm:=⟨0,[],[],0,0,⟨⟨0,0,0⟩,0,[],[],[],[]⟩,[],[],[],[],⟨0,0,[]⟩,0,0,0,[],[]⟩
def bQ (p:List Stp):Stp:=if bD p then ⟨0,[]⟩else p.getLastD ⟨0,[]⟩
def lF (p:List Stp) (h:p≠[]):(p.map Stp.cs).getD (p.length-1) []=[.i (p.getLastD ⟨0,[]⟩).kind,.str (p.getLastD ⟨0,[]⟩).label]:=by
 have D:0<p.length:=length_pos_iff.2 h;rw[getLastD_eq_getLast?,getLast?_eq_getElem?];simp[List.getD,show p.length-1<p.length by omega,Stp.cs]
def gU {p:List Stp} (h:bD p=false):p≠[]:=by
 rintro rfl;simp[bD]at h
section
variable (G:Glob)
def f54 (k:Int):Pure G Tryz.prog 54 [.i k] (.bool (inR k 0 6)):=by
 refine Pure.w c54 λR D=>?_;unfold s54 r54;(repeat' (first|(with_reducible (refine af (λh=>?_) λh=>?_)<;>(try simp only[DZ]at h))|simp only[EV,seval]));(all_goals(((refine RET.eq D ?_;(refine congrArg AV.bool (Bool.eq_iff_iff.2 ?_);simp only[inR,EVB]at*;omega)))))
def f171 (k:Int):Pure G Tryz.prog 171 [.i k] (.bool (decide (k=7)||decide (k=8)||decide (k=9)||decide (k=11))):=by
 refine Pure.w c171 λR D=>?_;unfold s171 r171;(repeat' (first|(with_reducible (refine af (λh=>?_) λh=>?_)<;>(try simp only[DZ]at h))|simp only[EV,seval]));(all_goals(((refine RET.eq D ?_;(refine congrArg AV.bool (Bool.eq_iff_iff.2 ?_);simp only[EVB]at*;omega)))))
def f165 (k:Int):Pure G Tryz.prog 165 [.i k] (.bool (inR k 0 1048576)):=by
 refine Pure.w c165 λR D=>?_;unfold s165 r165;(repeat' (first|(with_reducible (refine af (λh=>?_) λh=>?_)<;>(try simp only[DZ]at h))|simp only[EV,seval]));(all_goals(((refine RET.eq D ?_;(refine congrArg AV.bool (Bool.eq_iff_iff.2 ?_);simp only[inR,EVB]at*;omega)))))
def f136 (k:Int) (l:List UInt8):Pure G Tryz.prog 136 [.agg [.i k,.str l]] (.bool (decide (k=0)&&decide (l=[]))):=by
 refine Pure.w c136 λR D=>?_;unfold s136 r136;(repeat' (first|(with_reducible (refine af (λh=>?_) λh=>?_)<;>(try simp only[DZ]at h))|simp only[EV,seval]));(all_goals(first|(refine RET.eq D ?_;(refine congrArg AV.bool (Bool.eq_iff_iff.2 ?_);simp only[EVB]at*;omega))|(refine RET.eq D ?_;((simp_all[];done)))))
def f251 (k:Int) (l:List UInt8):Pure G Tryz.prog 251 [.agg [.i k,.str l]] (.bool (decide (k=0)&&decide (l=[]))):=by
 refine Pure.w c251 λR D=>?_;unfold s251 r251;(repeat' (first|(with_reducible (refine af (λh=>?_) λh=>?_)<;>(try simp only[DZ]at h))|simp only[EV,seval]));(all_goals(first|(refine RET.eq D ?_;(refine congrArg AV.bool (Bool.eq_iff_iff.2 ?_);simp only[EVB]at*;omega))|(refine RET.eq D ?_;((simp_all[];done)))))
def f229 (k:Int):Pure G Tryz.prog 229 [.i k] (.bool (inR k 0 3)):=by
 refine Pure.w c229 λR D=>?_;unfold s229 r229;(repeat' (first|(with_reducible refine ab (f247 G _ _ _) ?_)|simp only[EV,seval]));(all_goals((exact RET.eq D rfl)))
def f236 (x:Itm):Pure G Tryz.prog 236 [.agg x.cs] (.bool (inR x.nth 0 256)):=by
 refine Pure.w c236 λR D=>?_;unfold s236 r236;(repeat' (first|(with_reducible refine ab (f247 G _ _ _) ?_)|simp only[EV,seval]));(all_goals((exact RET.eq D rfl)))
def f250 (x:Itm) (n:Int):Pure G Tryz.prog 250 [.agg x.cs,.i n] (.bool (inR x.act 1 1048576&&inR x.item n 31)):=by
 refine Pure.w c250 λR D=>?_;unfold s250 r250;(repeat' (first|(with_reducible (refine af (λh=>?_) λh=>?_)<;>(try simp only[DZ]at h))|(with_reducible refine ab (f247 G _ _ _) ?_)|simp only[EV,seval]));(all_goals(((refine RET.eq D ?_;((simp_all[];done))))))
def f153 (x:Itm):Pure G Tryz.prog 153 [.agg x.cs] (.bool (decide (x.wh=2)||decide (x.wh=3))):=by
 refine Pure.w c153 λR D=>?_;unfold s153 r153;(repeat' (first|(with_reducible (refine af (λh=>?_) λh=>?_)<;>(try simp only[DZ]at h))|simp only[EV,seval]));(all_goals(((refine RET.eq D ?_;(refine congrArg AV.bool (Bool.eq_iff_iff.2 ?_);simp only[EVB]at*;omega)))))
def f155 (x:Itm) (k:Int):Pure G Tryz.prog 155 [.agg x.cs,.i k] (.bool (decide (x.kind=k)&& !(decide (x.wh=2)||decide (x.wh=3)))):=by
 refine Pure.w c155 λR D=>?_;unfold s155 r155;(repeat' (first|(with_reducible (refine af (λh=>?_) λh=>?_)<;>(try simp only[DZ]at h))|(with_reducible refine ab (f153 G _) ?_)|simp only[EV,seval]));(all_goals(((refine RET.eq D ?_;(refine congrArg AV.bool (Bool.eq_iff_iff.2 ?_);simp only[EVB]at*;omega)))))
def f152 (p:List Stp):Pure G Tryz.prog 152 [.lst 2 (p.map Stp.cs)] (.bool (bD p)):=by
 refine Pure.w c152 λR D=>?_;unfold s152 r152
 match p with
 |[]=>
  (repeat' (simp only[EV,seval]));(all_goals((exact RET.eq D rfl)))
 |[x]=>
  obtain⟨k,l⟩:=x;(repeat' (simp only[EV,seval]));(all_goals(((refine RET.eq D ?_;((simp_all[bD];done))))))
 |x::y::r=>
  (repeat' (first|(with_reducible (refine af (λh=>?_) λh=>?_)<;>(try simp only[DZ]at h))|(with_reducible refine AI (by omega) ?_)|simp only[EV,seval]|(exfalso;omega)));(all_goals(((refine RET.eq D ?_;((simp_all[bD];done))))))
def f157 (p:List Stp) (V:p.length<1000000):Pure G Tryz.prog 157 [.lst 2 (p.map Stp.cs)] (.agg (Stp.cs (bQ p))):=by
 refine Pure.w c157 λR M=>?_;unfold s157 r157
 cases I:bD p with
 |true=>
  (repeat' (first|(with_reducible refine ab (f152 G _) ?_)|simp only[EV,seval,I]|(with_reducible intro F D;(try(have E:=D;simp only[EVK]at E;(have J:=E))))));(all_goals(((refine RET.eq M ?_;((simp_all[bQ,Stp.cs];done))))))
 |false=>
  have N:=gU I;have T:0<p.length:=length_pos_iff.2 N
  have O:IntKind.i64.wrap ((p.length:Int)-1)=((p.length-1:Nat):Int):=by rw[av (by omega) (by omega)];omega
  (repeat' (first|(with_reducible first|refine AI (by omega) ?_|refine ab (f152 G _) ?_)|simp only[EV,seval,I,O,lF p N]|(with_reducible intro F D;(try(have E:=D;simp only[EVK]at E;(have J:=E))))));(all_goals(((refine RET.eq M ?_;((simp_all[bQ,Stp.cs];done))))))
def f227 (x:Itm):Pure G Tryz.prog 227 [.agg x.cs] (.agg (Itm.cs {iz with wh:=x.wh,unit:=x.unit})):=by
 refine Pure.w c227 λR I=>?_;unfold s227 r227;(repeat' (first|simp only[EV,seval]|(with_reducible intro F D;(try(have E:=D;simp only[EVK]at E;(have J:=E))))));(all_goals(((refine I _ _ (Or.inr ?_);simp[*,aW,aH,eH,hH,iz];done))))
def f231 (x:Itm):Pure G Tryz.prog 231 [.agg x.cs] (.agg (Itm.cs iz)):=by
 refine Pure.w c231 λR I=>?_;unfold s231 r231;(repeat' (first|simp only[EV,seval]|(with_reducible intro F D;(try(have E:=D;simp only[EVK]at E;(have J:=E))))));(all_goals(((refine I _ _ (Or.inr ?_);simp[*,aW,aH,eH,hH,iz];done))))
def f232 (x:Itm):Pure G Tryz.prog 232 [.agg x.cs] (.bool true):=by
 refine Pure.w c232 λR D=>?_;unfold s232 r232;(repeat' (simp only[EV,seval]));(all_goals((exact RET.eq D rfl)))
def f233 (x:Itm):Pure G Tryz.prog 233 [.agg x.cs] (.agg (Itm.cs {iz with old:=x.old,new:=x.new,nth:=x.nth})):=by
 refine Pure.w c233 λR I=>?_;unfold s233 r233;(repeat' (first|simp only[EV,seval]|(with_reducible intro F D;(try(have E:=D;simp only[EVK]at E;(have J:=E))))));(all_goals(((refine I _ _ (Or.inr ?_);simp[*,aW,aH,eH,hH,iz];done))))
def f237 (x:Itm):Pure G Tryz.prog 237 [.agg x.cs] (.agg (Itm.cs {iz with old:=x.old,new:=x.new,nth:=x.nth})):=by
 refine Pure.w c237 λR I=>?_;unfold s237 r237;(repeat' (first|simp only[EV,seval]|(with_reducible intro F D;(try(have E:=D;simp only[EVK]at E;(have J:=E))))));(all_goals(((refine I _ _ (Or.inr ?_);simp[*,aW,aH,eH,hH,iz];done))))
def f239 (x:Itm):Pure G Tryz.prog 239 [.agg x.cs] (.agg (Itm.cs {iz with new:=x.new})):=by
 refine Pure.w c239 λR I=>?_;unfold s239 r239;(repeat' (first|simp only[EV,seval]|(with_reducible intro F D;(try(have E:=D;simp only[EVK]at E;(have J:=E))))));(all_goals(((refine I _ _ (Or.inr ?_);simp[*,aW,aH,eH,hH,iz];done))))
def f241 (x:Itm):Pure G Tryz.prog 241 [.agg x.cs] (.agg (Itm.cs {iz with label:=x.label})):=by
 refine Pure.w c241 λR I=>?_;unfold s241 r241;(repeat' (first|simp only[EV,seval]|(with_reducible intro F D;(try(have E:=D;simp only[EVK]at E;(have J:=E))))));(all_goals(((refine I _ _ (Or.inr ?_);simp[*,aW,aH,eH,hH,iz];done))))
def f243 (x:Itm):Pure G Tryz.prog 243 [.agg x.cs] (.agg (Itm.cs {iz with to_:=x.to_,wh:=x.wh})):=by
 refine Pure.w c243 λR I=>?_;unfold s243 r243;(repeat' (first|simp only[EV,seval]|(with_reducible intro F D;(try(have E:=D;simp only[EVK]at E;(have J:=E))))));(all_goals(((refine I _ _ (Or.inr ?_);simp[*,aW,aH,eH,hH,iz];done))))
def f245 (x:Itm):Pure G Tryz.prog 245 [.agg x.cs] (.agg (Itm.cs {iz with event:=x.event,day:=x.day})):=by
 refine Pure.w c245 λR I=>?_;unfold s245 r245;(repeat' (first|simp only[EV,seval]|(with_reducible intro F D;(try(have E:=D;simp only[EVK]at E;(have J:=E))))));(all_goals(((refine I _ _ (Or.inr ?_);simp[*,aW,aH,eH,hH,iz];done))))
def f248 (x:Itm):Pure G Tryz.prog 248 [.agg x.cs] (.agg (Itm.cs {iz with act:=x.act,item:=x.item,by_:=x.by_})):=by
 refine Pure.w c248 λR I=>?_;unfold s248 r248;(repeat' (first|simp only[EV,seval]|(with_reducible intro F D;(try(have E:=D;simp only[EVK]at E;(have J:=E))))));(all_goals(((refine I _ _ (Or.inr ?_);simp[*,aW,aH,eH,hH,iz];done))))
def f438 (x:Itm):Pure G Tryz.prog 438 [.agg x.cs] (.agg (Itm.cs {iz with act:=x.act,item:=x.item,day:=x.day})):=by
 refine Pure.w c438 λR I=>?_;unfold s438 r438;(repeat' (first|simp only[EV,seval]|(with_reducible intro F D;(try(have E:=D;simp only[EVK]at E;(have J:=E))))));(all_goals(((refine I _ _ (Or.inr ?_);simp[*,aW,aH,eH,hH,iz];done))))
def f439 (x:Itm):Pure G Tryz.prog 439 [.agg x.cs] (.bool (inR x.act 1 1048576&&inR x.item (-1) 31&&inR x.day 0 1048576)):=by
 refine Pure.w c439 λR D=>?_;unfold s439 r439;(repeat' (first|(with_reducible (refine af (λh=>?_) λh=>?_)<;>(try simp only[DZ]at h))|(with_reducible first|refine ab (f250 G _ _) ?_|refine ab (f247 G _ _ _) ?_)|simp only[EV,seval]));(all_goals(((refine RET.eq D ?_;((simp_all[];done))))))
end
def okCh (c:UInt8):Bool:=decide ((33:Int)<=c.toNat)&&decide ((c.toNat:Int)<=126)
def bj (s:List UInt8):Bool:=decide ((1:Int)<=s.length)&&(decide ((s.length:Int)<=24)&&s.all okCh)
section
variable (G:Glob)
def f261 (s:List UInt8):Pure G Tryz.prog 261 [.str s] (.bool (bj s)):=by
 refine Pure.w c261 λR F=>?_;unfold s261 r261;(repeat' (first|(with_reducible (first|refine ae (λh=>?_) λh=>?_|refine af (λh=>?_) λh=>?_)<;>(try simp only[DZ]at h))|simp only[EV,seval,D.yes,D.le0,D.lt',D.get,D.row,J]|simp only[EV,seval,I]|simp only[EV,seval]|(refine ak D () ?_ (dT _ _))|(refine ap (s) (λi r (c:Unit)=>s.all okCh=r.all okCh) (λi c=>[(0,.str s),(3,.i i)]) (λ_ _=>[]) () (by rfl) (dT _ _) (by omega) (λi x r c E D J=>?_) (λc E I=>?_))));(all_goals(first|(refine RET.eq F ?_;(refine congrArg AV.bool (Bool.eq_iff_iff.2 ?_);simp only[bj,okCh,EVB]at*;omega))|(refine RET.eq F ?_;first|(simp_all[bj,okCh];done)|(simp_all[bj,okCh];omega))|(simp_all[bj,okCh];done)))
end
def cH {α:Type} [DecidableEq α] {a b:List α} {i:Nat} {x:α} {r:List α} (F:a.length=b.length/\decide (a=b)=decide (x::r=b.drop i)) (I:Rest a i x r):
  ∃y D,Rest b i y D/\b.drop (i+1)=D/\decide (a=b)=decide (x::r=y::D):=by
 have J:=I.lt
 cases E:b.drop i with
 |nil=>
  have:=congrArg List.length E;simp at this;omega
 |cons y D=>exact⟨y,D,iR E,(iR E).next,by rw[F.2,E]⟩
section
variable (G:Glob)
def f104 (a b:List (List UInt8)) (X:a.length<9000000000000000000):Pure G Tryz.prog 104 [.lst 1 (a.map srow),.lst 1 (b.map srow)] (.bool (decide (a=b))):=by
 refine Pure.w c104 λR J=>?_;unfold s104 r104;by_cases I:a.length=b.length
 ·have F:decide ((a.length:Int)≠(b.length:Int))=false:=by simp[I]
  (repeat' (first|(with_reducible (refine ae (λh=>?_) λh=>?_)<;>(try simp only[DZ]at h))|(with_reducible refine AI (by omega) ?_)|simp only[EV,seval,F,E.yes,E.le0,E.lt',E.get,E.row,T,M.row,M.lt']|simp only[EV,seval,F,O]|simp only[EV,seval,F]|(refine ak E () ?_ (dT _ _))|(refine ap (a) (λi r (c:Unit)=>a.length=b.length/\decide (a=b)=decide (r=b.drop i)) (λi c=>[(0,.lst 1 (a.map srow)),(1,.lst 1 (b.map srow)),(5,.i i)]) (λ_ _=>[]) () (by((simp[*];done))) (dT _ _) (by omega) (λi x r c D E T=>?_) (λc D O=>?_)<;>(try(obtain⟨y,r2,M,V,D⟩:=cH D E;skip)))));(all_goals(first|(refine RET.eq J ?_;((simp_all[I];done)))|(simp_all[I];done)))
 ·have F:decide ((a.length:Int)≠(b.length:Int))=true:=by simp;omega
  have N:decide (a=b)=false:=by simp;rintro rfl;exact I rfl
  rw[N]at J;(repeat' (simp only[EV,seval,F]));(all_goals((exact RET.eq J rfl)))
def f103 (a b:List Stp) (X:a.length<9000000000000000000):Pure G Tryz.prog 103 [.lst 2 (a.map Stp.cs),.lst 2 (b.map Stp.cs)] (.bool (decide (a=b))):=by
 refine Pure.w c103 λR J=>?_;unfold s103 r103;by_cases I:a.length=b.length
 ·have F:decide ((a.length:Int)≠(b.length:Int))=false:=by simp[I]
  (repeat' (first|(with_reducible (refine ae (λh=>?_) λh=>?_)<;>(try simp only[DZ]at h))|(with_reducible refine AI (by omega) ?_)|simp only[EV,seval,F,E.yes,E.le0,E.lt',E.get,E.row,T,M.row,M.lt']|simp only[EV,seval,F,O]|simp only[EV,seval,F]|(refine ak E () ?_ (dT _ _))|(refine ap (a) (λi r (c:Unit)=>a.length=b.length/\decide (a=b)=decide (r=b.drop i)) (λi c=>[(0,.lst 2 (a.map Stp.cs)),(1,.lst 2 (b.map Stp.cs)),(5,.i i)]) (λ_ _=>[]) () (by((simp[*];done))) (dT _ _) (by omega) (λi x r c D E T=>?_) (λc D O=>?_)<;>(try(obtain⟨y,r2,M,V,D⟩:=cH D E;(cases x;cases y))))));(all_goals(first|(refine RET.eq J ?_;first|(simp_all[I];done)|grind)|(simp_all[I];done)))
 ·have F:decide ((a.length:Int)≠(b.length:Int))=true:=by simp;omega
  have N:decide (a=b)=false:=by simp;rintro rfl;exact I rfl
  rw[N]at J;(repeat' (simp only[EV,seval,F]));(all_goals((exact RET.eq J rfl)))
def f36 (a b:List Wd) (X:a.length<9000000000000000000):Pure G Tryz.prog 36 [.lst 4 (a.map Wd.cs),.lst 4 (b.map Wd.cs)] (.bool (decide (a=b))):=by
 refine Pure.w c36 λR J=>?_;unfold s36 r36;by_cases I:a.length=b.length
 ·have F:decide ((a.length:Int)≠(b.length:Int))=false:=by simp[I]
  (repeat' (first|(with_reducible (refine ae (λh=>?_) λh=>?_)<;>(try simp only[DZ]at h))|(with_reducible refine AI (by omega) ?_)|simp only[EV,seval,F,E.yes,E.le0,E.lt',E.get,E.row,T,M.row,M.lt']|simp only[EV,seval,F,O]|simp only[EV,seval,F]|(refine ak E () ?_ (dT _ _))|(refine ap (a) (λi r (c:Unit)=>a.length=b.length/\decide (a=b)=decide (r=b.drop i)) (λi c=>[(0,.lst 4 (a.map Wd.cs)),(1,.lst 4 (b.map Wd.cs)),(5,.i i)]) (λ_ _=>[]) () (by((simp[*];done))) (dT _ _) (by omega) (λi x r c D E T=>?_) (λc D O=>?_)<;>(try(obtain⟨y,r2,M,V,D⟩:=cH D E;(cases x;cases y))))));(all_goals(first|(refine RET.eq J ?_;first|(simp_all[I];done)|grind)|(simp_all[I];done)))
 ·have F:decide ((a.length:Int)≠(b.length:Int))=true:=by simp;omega
  have N:decide (a=b)=false:=by simp;rintro rfl;exact I rfl
  rw[N]at J;(repeat' (simp only[EV,seval,F]));(all_goals((exact RET.eq J rfl)))
def f168 (a b:List (List UInt8)) (X:a.length<9000000000000000000):Pure G Tryz.prog 168 [.lst 1 (a.map srow),.lst 1 (b.map srow)] (.bool (decide (a=b))):=by
 refine Pure.w c168 λR J=>?_;unfold s168 r168;by_cases I:a.length=b.length
 ·have F:decide ((a.length:Int)≠(b.length:Int))=false:=by simp[I]
  (repeat' (first|(with_reducible (refine ae (λh=>?_) λh=>?_)<;>(try simp only[DZ]at h))|(with_reducible refine AI (by omega) ?_)|simp only[EV,seval,F,E.yes,E.le0,E.lt',E.get,E.row,T,M.row,M.lt']|simp only[EV,seval,F,O]|simp only[EV,seval,F]|(refine ak E () ?_ (dT _ _))|(refine ap (a) (λi r (c:Unit)=>a.length=b.length/\decide (a=b)=decide (r=b.drop i)) (λi c=>[(0,.lst 1 (a.map srow)),(1,.lst 1 (b.map srow)),(12,.i a.length),(13,.i i)]) (λ_ _=>[]) () (by((simp[*];done))) (dT _ _) (by omega) (λi x r c D E T=>?_) (λc D O=>?_)<;>(try(obtain⟨y,r2,M,V,D⟩:=cH D E;skip)))));(all_goals(first|(refine RET.eq J ?_;((simp_all[I];done)))|(simp_all[I];done)))
 ·have F:decide ((a.length:Int)≠(b.length:Int))=true:=by simp;omega
  have N:decide (a=b)=false:=by simp;rintro rfl;exact I rfl
  rw[N]at J;(repeat' (simp only[EV,seval,F]));(all_goals((exact RET.eq J rfl)))
def f159 (a b:List Stp) (X:a.length<9000000000000000000):Pure G Tryz.prog 159 [.lst 2 (a.map Stp.cs),.lst 2 (b.map Stp.cs)] (.bool (decide (a=b))):=by
 refine Pure.w c159 λR J=>?_;unfold s159 r159;by_cases I:a.length=b.length
 ·have F:decide ((a.length:Int)≠(b.length:Int))=false:=by simp[I]
  (repeat' (first|(with_reducible (refine ae (λh=>?_) λh=>?_)<;>(try simp only[DZ]at h))|(with_reducible refine AI (by omega) ?_)|simp only[EV,seval,F,E.yes,E.le0,E.lt',E.get,E.row,T,M.row,M.lt']|simp only[EV,seval,F,O]|simp only[EV,seval,F]|(refine ak E () ?_ (dT _ _))|(refine ap (a) (λi r (c:Unit)=>a.length=b.length/\decide (a=b)=decide (r=b.drop i)) (λi c=>[(0,.lst 2 (a.map Stp.cs)),(1,.lst 2 (b.map Stp.cs)),(12,.i a.length),(13,.i i)]) (λ_ _=>[]) () (by((simp[*];done))) (dT _ _) (by omega) (λi x r c D E T=>?_) (λc D O=>?_)<;>(try(obtain⟨y,r2,M,V,D⟩:=cH D E;(cases x;cases y))))));(all_goals(first|(refine RET.eq J ?_;first|(simp_all[I];done)|grind)|(simp_all[I];done)))
 ·have F:decide ((a.length:Int)≠(b.length:Int))=true:=by simp;omega
  have N:decide (a=b)=false:=by simp;rintro rfl;exact I rfl
  rw[N]at J;(repeat' (simp only[EV,seval,F]));(all_goals((exact RET.eq J rfl)))
def f268 (a b:List Wd) (X:a.length<9000000000000000000):Pure G Tryz.prog 268 [.lst 4 (a.map Wd.cs),.lst 4 (b.map Wd.cs)] (.bool (decide (a=b))):=by
 refine Pure.w c268 λR J=>?_;unfold s268 r268;by_cases I:a.length=b.length
 ·have F:decide ((a.length:Int)≠(b.length:Int))=false:=by simp[I]
  (repeat' (first|(with_reducible (refine ae (λh=>?_) λh=>?_)<;>(try simp only[DZ]at h))|(with_reducible refine AI (by omega) ?_)|simp only[EV,seval,F,E.yes,E.le0,E.lt',E.get,E.row,T,M.row,M.lt']|simp only[EV,seval,F,O]|simp only[EV,seval,F]|(refine ak E () ?_ (dT _ _))|(refine ap (a) (λi r (c:Unit)=>a.length=b.length/\decide (a=b)=decide (r=b.drop i)) (λi c=>[(0,.lst 4 (a.map Wd.cs)),(1,.lst 4 (b.map Wd.cs)),(12,.i a.length),(13,.i i)]) (λ_ _=>[]) () (by((simp[*];done))) (dT _ _) (by omega) (λi x r c D E T=>?_) (λc D O=>?_)<;>(try(obtain⟨y,r2,M,V,D⟩:=cH D E;(cases x;cases y))))));(all_goals(first|(refine RET.eq J ?_;first|(simp_all[I];done)|grind)|(simp_all[I];done)))
 ·have F:decide ((a.length:Int)≠(b.length:Int))=true:=by simp;omega
  have N:decide (a=b)=false:=by simp;rintro rfl;exact I rfl
  rw[N]at J;(repeat' (simp only[EV,seval,F]));(all_goals((exact RET.eq J rfl)))
end
def idxF {α:Type} (p:α->Bool):Nat->List α->Int
 |_,[]=>-1
 |i,x::r=>if p x then (i:Int)else idxF p (i+1) r
def dZ {α:Type} (p:α->Bool):∀(l:List α) (i:Nat),decide (0<=idxF p i l)=l.any p
 |[],i=>rfl
 |x::r,i=>by
  unfold idxF
  cases h:p x with
  |true=>simp[h]
  |false=>simp[h];simpa using dZ p r (i+1)
def ee (l:List (List UInt8)):Bool:=decide ((l.length:Int)<=256)&&l.all bj
def irow (n:Int):List AV:=[.i n]
def ol (n:Int):irow n=[.i n]:=(rfl)
def brow (c:UInt8):List AV:=[.int .u8 c.toNat]
def mX (l:List UInt8):eK l=l.map brow:=rfl
def ou (c:UInt8):brow c=[.int .u8 c.toNat]:=(rfl)
def fI {α:Type} (p:α->Bool) (l:List α):(!l.any λx=>!p x)=l.all p:=by
 induction l with
 |nil=>rfl
 |cons x r ih=>simp[←ih]
section
variable (G:Glob)
def f365 (c:UInt8):Pure G Tryz.prog 365 [.int .u8 c.toNat] (.bool (!okCh c)):=by
 refine Pure.w c365 λR D=>?_;unfold s365 r365;(repeat' (first|(with_reducible (refine af (λh=>?_) λh=>?_)<;>(try simp only[DZ]at h))|simp only[EV,seval]));(all_goals(((refine RET.eq D ?_;(refine congrArg AV.bool (Bool.eq_iff_iff.2 ?_);simp only[okCh,EVB]at*;omega)))))
def f396 (f:Value) (p:UInt8->Bool) (l:List UInt8) (N:l.length<9000000000000000000) (I:∀x∈l,gg G Tryz.prog f [.int .u8 x.toNat] (.bool (p x))):Pure G Tryz.prog 396 [.lst 1 (l.map brow),.sc f] (.i (idxF p 0 l)):=by
 refine Pure.w c396 λR F=>?_;unfold s396 r396;(repeat' (first|(with_reducible (refine ae (λh=>?_) λh=>?_)<;>(try simp only[DZ]at h))|simp only[EV,seval,ou,D.yes,D.le0,D.lt',D.get,D.row,M]|simp only[EV,seval,ou,J]|simp only[EV,seval,ou]|(refine ak D () ?_ (dT _ _))|(refine ap (l) (λi r (c:Unit)=>idxF p 0 l=idxF p i r) (λi c=>[(0,.lst 1 (l.map brow)),(1,.sc f),(7,.i l.length),(8,.i i)]) (λ_ _=>[]) () (by rfl) (dT _ _) (by omega) (λi x r c E D M=>?_) (λc E J=>?_))|(refine aM (I _ D.mem) ?_)));(all_goals(first|(refine RET.eq F ?_;first|(simp only[idxF,E,EVC,decide_true,decide_false];done)|(simp_all[idxF];done))|(simp_all[idxF];done)))
def f366 (f:Value) (p:UInt8->Bool) (l:List UInt8) (F:l.length<9000000000000000000) (E:∀x∈l,gg G Tryz.prog f [.int .u8 x.toNat] (.bool (p x))):Pure G Tryz.prog 366 [.lst 1 (l.map brow),.sc f] (.bool (l.any p)):=by
 refine Pure.w c366 λR D=>?_;unfold s366 r366;(repeat' (first|(with_reducible refine ab (f396 G f p l F E) ?_)|simp only[EV,seval]));(all_goals(((refine RET.eq D ?_;((simp_all[dZ];done))))))
def f364 (f:Value) (p:List UInt8->Bool) (l:List (List UInt8)) (N:l.length<9000000000000000000) (I:∀x∈l,gg G Tryz.prog f [.str x] (.bool (p x))):Pure G Tryz.prog 364 [.lst 1 (l.map srow),.sc f] (.i (idxF p 0 l)):=by
 refine Pure.w c364 λR F=>?_;unfold s364 r364;(repeat' (first|(with_reducible (refine ae (λh=>?_) λh=>?_)<;>(try simp only[DZ]at h))|simp only[EV,seval,D.yes,D.le0,D.lt',D.get,D.row,M]|simp only[EV,seval,J]|simp only[EV,seval]|(refine ak D () ?_ (dT _ _))|(refine ap (l) (λi r (c:Unit)=>idxF p 0 l=idxF p i r) (λi c=>[(0,.lst 1 (l.map srow)),(1,.sc f),(7,.i l.length),(8,.i i)]) (λ_ _=>[]) () (by rfl) (dT _ _) (by omega) (λi x r c E D M=>?_) (λc E J=>?_))|(refine aM (I _ D.mem) ?_)));(all_goals(first|(refine RET.eq F ?_;first|(simp only[idxF,E,EVC,decide_true,decide_false];done)|(simp_all[idxF];done))|(simp_all[idxF];done)))
def f331 (f:Value) (p:List UInt8->Bool) (l:List (List UInt8)) (F:l.length<9000000000000000000) (E:∀x∈l,gg G Tryz.prog f [.str x] (.bool (p x))):Pure G Tryz.prog 331 [.lst 1 (l.map srow),.sc f] (.bool (l.any p)):=by
 refine Pure.w c331 λR D=>?_;unfold s331 r331;(repeat' (first|(with_reducible refine ab (f364 G f p l F E) ?_)|simp only[EV,seval]));(all_goals(((refine RET.eq D ?_;((simp_all[dZ];done))))))
def f346 (f:Value) (p:Wd->Bool) (l:List Wd) (N:l.length<9000000000000000000) (I:∀x∈l,gg G Tryz.prog f [.agg x.cs] (.bool (p x))):Pure G Tryz.prog 346 [.lst 4 (l.map Wd.cs),.sc f] (.i (idxF p 0 l)):=by
 refine Pure.w c346 λR F=>?_;unfold s346 r346;(repeat' (first|(with_reducible (refine ae (λh=>?_) λh=>?_)<;>(try simp only[DZ]at h))|simp only[EV,seval,D.yes,D.le0,D.lt',D.get,D.row,M]|simp only[EV,seval,J]|simp only[EV,seval]|(refine ak D () ?_ (dT _ _))|(refine ap (l) (λi r (c:Unit)=>idxF p 0 l=idxF p i r) (λi c=>[(0,.lst 4 (l.map Wd.cs)),(1,.sc f),(7,.i l.length),(8,.i i)]) (λ_ _=>[]) () (by rfl) (dT _ _) (by omega) (λi x r c E D M=>?_) (λc E J=>?_))|(refine aM (I _ D.mem) ?_)));(all_goals(first|(refine RET.eq F ?_;first|(simp only[idxF,E,EVC,decide_true,decide_false];done)|(simp_all[idxF];done))|(simp_all[idxF];done)))
def f297 (f:Value) (p:Wd->Bool) (l:List Wd) (F:l.length<9000000000000000000) (E:∀x∈l,gg G Tryz.prog f [.agg x.cs] (.bool (p x))):Pure G Tryz.prog 297 [.lst 4 (l.map Wd.cs),.sc f] (.bool (l.any p)):=by
 refine Pure.w c297 λR D=>?_;unfold s297 r297;(repeat' (first|(with_reducible refine ab (f346 G f p l F E) ?_)|simp only[EV,seval]));(all_goals(((refine RET.eq D ?_;((simp_all[dZ];done))))))
def f329 (l:List Int) (k:Int) (M:l.length<9000000000000000000):Pure G Tryz.prog 329 [.lst 1 (l.map irow),.i k] (.i (idxF (λx=>decide (k=x)) 0 l)):=by
 refine Pure.w c329 λR F=>?_;unfold s329 r329;(repeat' (first|(with_reducible (refine ae (λh=>?_) λh=>?_)<;>(try simp only[DZ]at h))|simp only[EV,seval,ol,D.yes,D.le0,D.lt',D.get,D.row,J]|simp only[EV,seval,ol,I]|simp only[EV,seval,ol]|(refine ak D () ?_ (dT _ _))|(refine ap (l) (λi r (c:Unit)=>idxF (λx=>decide (k=x)) 0 l=idxF (λx=>decide (k=x)) i r) (λi c=>[(0,.lst 1 (l.map irow)),(1,.i k),(7,.i l.length),(8,.i i)]) (λ_ _=>[]) () (by rfl) (dT _ _) (by omega) (λi x r c E D J=>?_) (λc E I=>?_))));(all_goals(first|(refine RET.eq F ?_;first|(simp only[idxF,E,EVC,decide_true,decide_false];done)|(simp_all[idxF];done))|(simp_all[idxF];done)))
def f265 (l:List Int) (k:Int) (E:l.length<9000000000000000000):Pure G Tryz.prog 265 [.lst 1 (l.map irow),.i k] (.bool (l.any λx=>decide (k=x))):=by
 refine Pure.w c265 λR D=>?_;unfold s265 r265;(repeat' (first|(with_reducible refine ab (f329 G l k E) ?_)|simp only[EV,seval]));(all_goals(((refine RET.eq D ?_;((simp_all[dZ];done))))))
def f333 (s:List UInt8):Pure G Tryz.prog 333 [.str s] (.bool (bj s)):=by
 refine Pure.w c333 λR D=>?_;unfold s333 r333;(repeat' (first|(with_reducible (refine af (λh=>?_) λh=>?_)<;>(try simp only[DZ]at h))|(with_reducible refine ab (f366 G _ (λc=>!okCh c) s (by omega) (λx _=>(f365 G x).v)) ?_)|simp only[EV,seval,mX,fI]|(refine oH (l:=s) (elem:=5) rfl (by omega) (by kernel_rfl) (by kernel_rfl) (by kernel_rfl) ?_)))
 all_goals(try have E:(1:Int)<=s.length:=by have:0<s.length:=length_pos_iff.2 (by assumption);omega)
 (all_goals(first|(refine RET.eq D ?_;(refine congrArg AV.bool (Bool.eq_iff_iff.2 ?_);simp only[bj,fI,EVB]at*;omega))|(refine RET.eq D ?_;((simp_all[bj,fI];done)))))
end
def appX_oneF {e:TypeId} {sz bytes:Nat} {σ:Store} {g:Option Nat} {rows ys:List (List AV)} {K:AV->Store->Prop} (κ:Store) (N:∀b,g=some b->σ.get b=some (.tok e (rows.length*sz))) (I:Fits (rows.length+ys.length) bytes)
  (D:SubN κ (σ.erase g)) (O:∀E,(∀b,E=some b->b∉κ.keys)->K (.own E e sz (rows++ys)) (κ++tokS E e ((rows++ys).length*sz))):appX e sz bytes σ g rows ys K:=by
 refine⟨N,I,λE _ J=>⟨κ++tokS E e ((rows++ys).length*sz),⟨?_,?_⟩,O E (λb I T=>J b I (cV D.1 T))⟩⟩
 ·intro p F
  rcases mem_append.1 F with F|F
  ·exact mem_append.2 (.inr (D.1 p F))
  ·exact mem_append.2 (.inl F)
 ·intro M
  rw[aC]at M ⊢;obtain⟨Y,Z,n3⟩:=nodup_append.1 M;exact nodup_append.2 ⟨D.2 Z,Y,λx V y X e=>n3 y X x (cV D.1 V) e.symm⟩
def gj {e:TypeId} {sz bytes:Nat} {σ:Store} {g:Option Nat} {rows ys:List (List AV)} {K:AV->Store->Prop} (κ:Store) (I:∀b,g=some b->σ.get b=some (.tok e (rows.length*sz))) (F:(rows.length+ys.length)*bytes<=140737488355328)
  (E:SubN κ (σ.erase g)) (J:∀D,(∀b,D=some b->b∉κ.keys)->K (.own D e sz (rows++ys)) (κ++tokS D e ((rows++ys).length*sz))):appX e sz bytes σ g rows ys K:=appX_oneF κ I (.inl F) E J
def aZ {e:TypeId} {sz bytes n m m':Nat} {τ:Store} {g:Option Nat} {rows:List (List AV)} {cs:List AV} {K:AV->Store->Prop} {b k1:Nat} (I:∀d,g=some d->τ.get d=some (.tok e m)) (Y:rows.length=n) (V:m=n*sz) (F:m'=(n+1)*sz) (T:cs.length=sz)
  (M:b∉τ.keys) (X:(n+1)*bytes<=140737488355328) (O:∀D,K (.own D e sz (rows++[cs])) (tokS D e m')):
  ∃E:List (List AV),E.length=1/\(∀r∈E,r.length=sz)/\E.flatten=cs/\appX e sz bytes ((b,.tok e k1)::τ) g rows E K:=by
 subst V F Y
 refine⟨[cs],rfl,by simpa using T,by simp,gj [] (λd N=>?_) (by simpa using X) (SubN.nil _) (λD _=>by simpa using O D)⟩
 have J:=I d N
 have:¬b=d:=by
  rintro rfl;exact M (mem_map.2 ⟨_,rv J,rfl⟩)
 simp only[Store.get,if_neg this]
 exact J
def Weak.sub {G:Glob} {env:Env} {σ σ':Store} (D:SubN σ' σ):Weak G env σ env σ':=λρ w tmps F E=>⟨F.subN D,rN D.1 w,λj=>Rep.ev (rN D.1 w) _ _ (E j)⟩
def aS {g:Option Nat} {e:TypeId} {k:Nat}:∀d,g=some d->(tokS g e k).get d=some (.tok e k):=by
 rintro d rfl;simp[tokS,Store.get]
def bp {g:Option Nat} {e:TypeId} {k c:Nat} {y:AObj} (D:c∉(tokS g e k).keys):∀d,g=some d->Store.get ((c,y)::tokS g e k) d=some (.tok e k):=by
 rintro d rfl
 have:¬c=d:=by rintro rfl;exact D (by simp[tokS,Store.keys])
 simp[tokS,Store.get,this]
def mZ {g:Option Nat} {e:TypeId} {k c c2:Nat} {y J:AObj} (I:c∉(tokS g e k).keys) (D:c2∉Store.keys ((c,y)::tokS g e k)):∀d,g=some d->Store.get ((c2,J)::(c,y)::tokS g e k) d=some (.tok e k):=by
 rintro d rfl
 have E:¬c=d:=by rintro rfl;exact I (by simp[tokS,Store.keys])
 have F:¬c2=d:=by rintro rfl;exact D (by simp[tokS,Store.keys])
 simp[tokS,Store.get,E,F]
section
variable (G:Glob)
def f345 (s:List UInt8):Pure G Tryz.prog 345 [.str s] (.bool (!bj s)):=by
 refine Pure.w c345 λR D=>?_;unfold s345 r345;(repeat' (first|(with_reducible refine ab (f333 G _) ?_)|simp only[EV,seval]));(all_goals((exact RET.eq D rfl)))
def f295 (l:List (List UInt8)) (E:l.length<9000000000000000000):Pure G Tryz.prog 295 [.lst 1 (l.map srow)] (.bool (ee l)):=by
 refine Pure.w c295 λR D=>?_;unfold s295 r295;(repeat' (first|(with_reducible (refine af (λh=>?_) λh=>?_)<;>(try simp only[DZ]at h))|(with_reducible refine ab (f331 G _ (λc=>!bj c) l E (λx _=>(f345 G x).v)) ?_)|simp only[EV,seval,fI]));(all_goals(first|(refine RET.eq D ?_;(refine congrArg AV.bool (Bool.eq_iff_iff.2 ?_);simp only[ee,fI,EVB]at*;omega))|(refine RET.eq D ?_;((simp_all[ee,fI];done)))))
def f140 (l:List (List UInt8)) (M:l.length<9000000000000000000):Pure G Tryz.prog 140 [.lst 1 (l.map srow)] (.bool (ee l)):=by
 refine Pure.w c140 λR F=>?_;unfold s140 r140;(repeat' (first|(with_reducible (refine ae (λh=>?_) λh=>?_)<;>(try simp only[DZ]at h))|(with_reducible refine ab (f261 G _) ?_)|simp only[EV,seval,E.yes,E.le0,E.lt',E.get,E.row,J]|simp only[EV,seval,I]|simp only[EV,seval]|(refine ak E () ?_ (dT _ _))|(refine ap (l) (λi r (c:Unit)=>l.all bj=r.all bj) (λi c=>[(0,.lst 1 (l.map srow)),(3,.i i)]) (λ_ _=>[]) () (by rfl) (dT _ _) (by omega) (λi x r c D E J=>?_) (λc D I=>?_))));(all_goals(first|(refine RET.eq F ?_;(refine congrArg AV.bool (Bool.eq_iff_iff.2 ?_);simp only[ee,EVB]at*;omega))|(refine RET.eq F ?_;((simp only[ee,D,h,EVC,decide_true,decide_false];done)))|(rw[D];simp only[ee,h,EVC,decide_true,decide_false];done)))
def f392 (s:List UInt8) (M:s.length<9000000000000000000):Pure G Tryz.prog 392 [.str s] (.bool (bj s)):=by
 refine Pure.w c392 λR F=>?_;unfold s392 r392;(repeat' (first|(with_reducible (first|refine ae (λh=>?_) λh=>?_|refine af (λh=>?_) λh=>?_)<;>(try simp only[DZ]at h))|simp only[EV,seval,D.yes,D.le0,D.lt',D.get,D.row,J]|simp only[EV,seval,I]|simp only[EV,seval]|(refine ak D () ?_ (dT _ _))|(refine ap (s) (λi r (c:Unit)=>s.all okCh=r.all okCh) (λi c=>[(0,.str s),(3,.i i)]) (λ_ _=>[]) () (by rfl) (dT _ _) (by omega) (λi x r c E D J=>?_) (λc E I=>?_))));(all_goals(first|(refine RET.eq F ?_;(refine congrArg AV.bool (Bool.eq_iff_iff.2 ?_);simp only[bj,okCh,EVB]at*;omega))|(refine RET.eq F ?_;first|(simp only[bj,okCh,E,h,EVC,decide_true,decide_false];done)|(simp_all[bj,okCh];omega))|(simp_all[bj,okCh];done)))
def f78 (l:List (List UInt8)) (n:Int) (E:l.length<9000000000000000000):Pure G Tryz.prog 78 [.lst 1 (l.map srow),.i n] (.bool (ee l&&decide (n<=(l.length:Int)))):=by
 refine Pure.w c78 λR D=>?_;unfold s78 r78;(repeat' (first|(with_reducible (refine af (λh=>?_) λh=>?_)<;>(try simp only[DZ]at h))|(with_reducible refine ab (f140 G _ E) ?_)|simp only[EV,seval]));(all_goals(((refine RET.eq D ?_;((simp_all[];done))))))
def f235 (l:List (List UInt8)) (n:Int) (E:l.length<9000000000000000000):Pure G Tryz.prog 235 [.lst 1 (l.map srow),.i n] (.bool (ee l&&decide (n<=(l.length:Int)))):=by
 refine Pure.w c235 λR D=>?_;unfold s235 r235;(repeat' (first|(with_reducible (refine af (λh=>?_) λh=>?_)<;>(try simp only[DZ]at h))|(with_reducible refine ab (f295 G _ E) ?_)|simp only[EV,seval]));(all_goals(((refine RET.eq D ?_;((simp_all[];done))))))
def wdOk (w:Wd):Bool:=bj w.text
def ba (l:List Wd):Bool:=decide ((l.length:Int)<=256)&&l.all wdOk
def f368 (l:List Wd) (X:l.length<1000000):Pure G Tryz.prog 368 [.lst 4 (l.map Wd.cs)] (.lst 1 ((l.map Wd.text).map srow)):=by
 refine Pure.w c368 λR N=>?_;unfold s368 r368;(repeat' (first|simp only[EV,seval,D.yes,D.le0,D.lt',D.get,D.row,V]|simp only[EV,seval,O]|simp only[EV,seval]|(with_reducible intro I E;(try(have F:=E;simp only[EVK]at F;(have T:=F))))|(refine⟨[],rfl,(by simp),rfl,?_⟩)|(refine ap (ι:=Option Nat) (l) (λi r c=>True) (λi c=>[(0,.lst 4 (l.map Wd.cs)),(3,.own c 9 1 ((l.take i).map (λw=>[AV.str w.text]))),(4,.i i)]) (λi c=>tokS c 9 (i)) (some I) (by trivial) (dT _ _) (by omega) (λi x r c J D V=>?_) (λc J O=>?_))|(refine aZ (n:=i) (m':=(i+1)) (by exact aS) (by simp;have:=D.lt;omega) (by omega) (by omega) rfl (by assumption) (by have:=D.lt;omega) (λM=>?_))|(refine ak D M ?_ (by simp only[D.take,map_append,map_cons,map_nil];exact dT _ _))));(all_goals(((refine N _ _ (Or.inl (Or.inr ⟨rfl,?_⟩));simp[kX,Function.comp_def];done))))
end
end Go.Av
