/-
  LINT, 2: the small functions of the reference and of the program.
-/
import Derived.Test.YtnoakpkjccigoaaGreatDoorRXDattoXC1
import Derived.Test.YtnoakpkjccigoaaGreatDoorRXC2toXC3
namespace Go.Av
open Go Go.RowKit Go.Proofs List
set_option linter.unusedSimpArgs false
set_option linter.unusedVariables false
def inR (n lo hi:Int):Bool:=decide (lo<=n)&&decide (n<=hi)
def pl (p k:Int):Bool:=
 if p=0 then decide (k=1)||decide (k=2)else if p=1 then decide (k=2)else if p=2\/p=3 then decide (k=3)||decide (k=4)||decide (k=7)else if p=4 then decide (k=5)else if p=5 then decide (k=6)else false
section
variable (G:Glob)
theorem f185 (n lo hi:Int):Pure G Tryz.prog 185 [.int .i64 n,.int .i64 lo,.int .i64 hi] (.bool (inR n lo hi)):=by
 refine Pure.w c185 λR D=>?_
 unfold s185 r185
 (repeat' (first|(with_reducible (refine ai (λh=>?_) (λh=>?_))<;>(try simp only[DZ]at h))|simp only[EVz,seval,↓reduceIte,EV6,EV7]))
 (all_goals(((refine RET.eq D ?_;(refine congrArg AV.bool (Bool.eq_iff_iff.2 ?_);simp only[inR,EVB]at*;omega)))))
theorem f74 (p k:Int):Pure G Tryz.prog 74 [.int .i64 p,.int .i64 k] (.bool (pl p k)):=by
 refine Pure.w c74 λR D=>?_
 unfold s74 r74
 (repeat' (first|(with_reducible (first|refine ab (λh=>?_) (λh=>?_)|refine ai (λh=>?_) (λh=>?_))<;>(try simp only[DZ]at h))|simp only[EVz,seval,↓reduceIte,EV6,EV7]|(exfalso;omega)))
 (all_goals(((refine RET.eq D ?_;((simp_all[pl];done))))))
end
def iz:Itm:=⟨0,[],[],0,0,⟨⟨0,0,0⟩,0,[],[],[],[]⟩,[],[],[],[],⟨0,0,[]⟩,0,0,0,[],[]⟩
section
variable (G:Glob)
theorem f48 (k:Int):Pure G Tryz.prog 48 [.int .i64 k] (.bool (inR k 0 6)):=by
 refine Pure.w c48 λR D=>?_
 unfold s48 r48
 (repeat' (first|(with_reducible (refine ai (λh=>?_) (λh=>?_))<;>(try simp only[DZ]at h))|simp only[EVz,seval,↓reduceIte,EV6,EV7]))
 (all_goals(((refine RET.eq D ?_;(refine congrArg AV.bool (Bool.eq_iff_iff.2 ?_);simp only[inR,EVB]at*;omega)))))
theorem f189 (k:Int) (l:List UInt8):Pure G Tryz.prog 189 [.agg [.int .i64 k,.str l]] (.bool (decide (k=0)&&decide (l=[]))):=by
 refine Pure.w c189 λR D=>?_
 unfold s189 r189
 (repeat' (first|(with_reducible (refine ai (λh=>?_) (λh=>?_))<;>(try simp only[DZ]at h))|simp only[EVz,seval,↓reduceIte,EV6,EV7]))
 (all_goals(first|(refine RET.eq D ?_;(refine congrArg AV.bool (Bool.eq_iff_iff.2 ?_);simp only[EVB]at*;omega))|(refine RET.eq D ?_;((simp_all[];done)))))
theorem f167 (k:Int):Pure G Tryz.prog 167 [.int .i64 k] (.bool (inR k 0 3)):=by
 refine Pure.w c167 λR D=>?_
 unfold s167 r167
 (repeat' (first|(with_reducible refine aa (f185 G _ _ _) ?_)|simp only[EVz,seval,↓reduceIte,EV6,EV7]))
 (all_goals((exact RET.eq D rfl)))
theorem f174 (x:Itm):Pure G Tryz.prog 174 [.agg x.cs] (.bool (inR x.nth 0 256)):=by
 refine Pure.w c174 λR D=>?_
 unfold s174 r174
 (repeat' (first|(with_reducible refine aa (f185 G _ _ _) ?_)|simp only[EVz,seval,↓reduceIte,EV6,EV7]))
 (all_goals((exact RET.eq D rfl)))
theorem f188 (x:Itm) (n:Int):Pure G Tryz.prog 188 [.agg x.cs,.int .i64 n] (.bool (inR x.act 1 1048576&&inR x.item n 31)):=by
 refine Pure.w c188 λR D=>?_
 unfold s188 r188
 (repeat' (first|(with_reducible (refine ai (λh=>?_) (λh=>?_))<;>(try simp only[DZ]at h))|(with_reducible refine aa (f185 G _ _ _) ?_)|simp only[EVz,seval,↓reduceIte,EV6,EV7]))
 (all_goals(((refine RET.eq D ?_;((simp_all[];done))))))
theorem f165 (x:Itm):Pure G Tryz.prog 165 [.agg x.cs] (.agg (Itm.cs {iz with wh:=x.wh,unit:=x.unit})):=by
 refine Pure.w c165 λR I=>?_
 unfold s165 r165
 (repeat' (first|simp only[EVz,seval,↓reduceIte,EV6,EV7]|(with_reducible intro F D;(try(have E:=D;simp only[EVK]at E;(have J:=E))))))
 (all_goals(((refine I _ _ (Or.inr ?_);simp[*,bc,aR,Itm.cs_eq,U.cs_eq,iz];done))))
theorem f169 (x:Itm):Pure G Tryz.prog 169 [.agg x.cs] (.agg (Itm.cs iz)):=by
 refine Pure.w c169 λR I=>?_
 unfold s169 r169
 (repeat' (first|simp only[EVz,seval,↓reduceIte,EV6,EV7]|(with_reducible intro F D;(try(have E:=D;simp only[EVK]at E;(have J:=E))))))
 (all_goals(((refine I _ _ (Or.inr ?_);simp[*,bc,aR,Itm.cs_eq,U.cs_eq,iz];done))))
theorem f170 (x:Itm):Pure G Tryz.prog 170 [.agg x.cs] (.bool true):=by
 refine Pure.w c170 λR D=>?_
 unfold s170 r170
 (repeat' (simp only[EVz,seval,↓reduceIte,EV6,EV7]))
 (all_goals((exact RET.eq D rfl)))
theorem f171 (x:Itm):Pure G Tryz.prog 171 [.agg x.cs] (.agg (Itm.cs {iz with old:=x.old,new:=x.new,nth:=x.nth})):=by
 refine Pure.w c171 λR I=>?_
 unfold s171 r171
 (repeat' (first|simp only[EVz,seval,↓reduceIte,EV6,EV7]|(with_reducible intro F D;(try(have E:=D;simp only[EVK]at E;(have J:=E))))))
 (all_goals(((refine I _ _ (Or.inr ?_);simp[*,bc,aR,Itm.cs_eq,U.cs_eq,iz];done))))
theorem f175 (x:Itm):Pure G Tryz.prog 175 [.agg x.cs] (.agg (Itm.cs {iz with old:=x.old,new:=x.new,nth:=x.nth})):=by
 refine Pure.w c175 λR I=>?_
 unfold s175 r175
 (repeat' (first|simp only[EVz,seval,↓reduceIte,EV6,EV7]|(with_reducible intro F D;(try(have E:=D;simp only[EVK]at E;(have J:=E))))))
 (all_goals(((refine I _ _ (Or.inr ?_);simp[*,bc,aR,Itm.cs_eq,U.cs_eq,iz];done))))
theorem f177 (x:Itm):Pure G Tryz.prog 177 [.agg x.cs] (.agg (Itm.cs {iz with new:=x.new})):=by
 refine Pure.w c177 λR I=>?_
 unfold s177 r177
 (repeat' (first|simp only[EVz,seval,↓reduceIte,EV6,EV7]|(with_reducible intro F D;(try(have E:=D;simp only[EVK]at E;(have J:=E))))))
 (all_goals(((refine I _ _ (Or.inr ?_);simp[*,bc,aR,Itm.cs_eq,U.cs_eq,iz];done))))
theorem f179 (x:Itm):Pure G Tryz.prog 179 [.agg x.cs] (.agg (Itm.cs {iz with label:=x.label})):=by
 refine Pure.w c179 λR I=>?_
 unfold s179 r179
 (repeat' (first|simp only[EVz,seval,↓reduceIte,EV6,EV7]|(with_reducible intro F D;(try(have E:=D;simp only[EVK]at E;(have J:=E))))))
 (all_goals(((refine I _ _ (Or.inr ?_);simp[*,bc,aR,Itm.cs_eq,U.cs_eq,iz];done))))
theorem f181 (x:Itm):Pure G Tryz.prog 181 [.agg x.cs] (.agg (Itm.cs {iz with to_:=x.to_,wh:=x.wh})):=by
 refine Pure.w c181 λR I=>?_
 unfold s181 r181
 (repeat' (first|simp only[EVz,seval,↓reduceIte,EV6,EV7]|(with_reducible intro F D;(try(have E:=D;simp only[EVK]at E;(have J:=E))))))
 (all_goals(((refine I _ _ (Or.inr ?_);simp[*,bc,aR,Itm.cs_eq,U.cs_eq,iz];done))))
theorem f183 (x:Itm):Pure G Tryz.prog 183 [.agg x.cs] (.agg (Itm.cs {iz with event:=x.event,day:=x.day})):=by
 refine Pure.w c183 λR I=>?_
 unfold s183 r183
 (repeat' (first|simp only[EVz,seval,↓reduceIte,EV6,EV7]|(with_reducible intro F D;(try(have E:=D;simp only[EVK]at E;(have J:=E))))))
 (all_goals(((refine I _ _ (Or.inr ?_);simp[*,bc,aR,Itm.cs_eq,U.cs_eq,iz];done))))
theorem f186 (x:Itm):Pure G Tryz.prog 186 [.agg x.cs] (.agg (Itm.cs {iz with act:=x.act,item:=x.item,by_:=x.by_})):=by
 refine Pure.w c186 λR I=>?_
 unfold s186 r186
 (repeat' (first|simp only[EVz,seval,↓reduceIte,EV6,EV7]|(with_reducible intro F D;(try(have E:=D;simp only[EVK]at E;(have J:=E))))))
 (all_goals(((refine I _ _ (Or.inr ?_);simp[*,bc,aR,Itm.cs_eq,U.cs_eq,iz];done))))
theorem f353 (x:Itm):Pure G Tryz.prog 353 [.agg x.cs] (.agg (Itm.cs {iz with act:=x.act,item:=x.item,day:=x.day})):=by
 refine Pure.w c353 λR I=>?_
 unfold s353 r353
 (repeat' (first|simp only[EVz,seval,↓reduceIte,EV6,EV7]|(with_reducible intro F D;(try(have E:=D;simp only[EVK]at E;(have J:=E))))))
 (all_goals(((refine I _ _ (Or.inr ?_);simp[*,bc,aR,Itm.cs_eq,U.cs_eq,iz];done))))
theorem f354 (x:Itm):Pure G Tryz.prog 354 [.agg x.cs] (.bool (inR x.act 1 1048576&&inR x.item (-1) 31&&inR x.day 0 1048576)):=by
 refine Pure.w c354 λR D=>?_
 unfold s354 r354
 (repeat' (first|(with_reducible (refine ai (λh=>?_) (λh=>?_))<;>(try simp only[DZ]at h))|(with_reducible first|refine aa (f188 G _ _) ?_|refine aa (f185 G _ _ _) ?_)|simp only[EVz,seval,↓reduceIte,EV6,EV7]))
 (all_goals(((refine RET.eq D ?_;((simp_all[];done))))))
end
def okCh (c:UInt8):Bool:=decide ((33:Int)<=c.toNat)&&decide ((c.toNat:Int)<=126)
def bf (s:List UInt8):Bool:=decide ((1:Int)<=s.length)&&(decide ((s.length:Int)<=24)&&s.all okCh)
section
variable (G:Glob)
theorem f81 (s:List UInt8):Pure G Tryz.prog 81 [.str s] (.bool (bf s)):=by
 refine Pure.w c81 λR F=>?_
 unfold s81 r81
 (repeat' (first|(with_reducible (first|refine ab (λh=>?_) (λh=>?_)|refine ai (λh=>?_) (λh=>?_))<;>(try simp only[DZ]at h))|simp only[EVz,seval,↓reduceIte,EV6,EV7,D.yes,D.le0,D.lt',D.get,D.row,J]|simp only[EVz,seval,↓reduceIte,EV6,EV7,I]|simp only[EVz,seval,↓reduceIte,EV6,EV7]|(refine ap D () ?_ (Weak.rfl' _ _))|(refine ay (s) (λi r (c:Unit)=>s.all okCh=r.all okCh) (λi c=>[(0,.str s),(3,.int .i64 i)]) (λ_ _=>[]) () (by rfl) (Weak.rfl' _ _) (by omega) (λi x r c E D J=>?_) (λc E I=>?_))))
 (all_goals(first|(refine RET.eq F ?_;(refine congrArg AV.bool (Bool.eq_iff_iff.2 ?_);simp only[bf,okCh,EVB]at*;omega))|(refine RET.eq F ?_;first|(simp_all[bf,okCh];done)|(simp_all[bf,okCh];omega))|(simp_all[bf,okCh];done)))
end
theorem dv {α:Type} [DecidableEq α] {a b:List α} {i:Nat} {x:α} {r:List α} (F:a.length=b.length/\decide (a=b)=decide (x::r=b.drop i)) (I:Rest a i x r):
  ∃y D,Rest b i y D/\b.drop (i+1)=D/\decide (a=b)=decide (x::r=y::D):=by
 have J:=I.lt
 cases E:b.drop i with
 |nil=>
  have:=congrArg List.length E
  simp at this
  omega
 |cons y D=>exact⟨y,D,gk E,(gk E).next,by rw[F.2,E]⟩
section
variable (G:Glob)
theorem f42 (a b:List Wd) (X:a.length<9000000000000000000):Pure G Tryz.prog 42 [.lst 4 (a.map Wd.cs),.lst 4 (b.map Wd.cs)] (.bool (decide (a=b))):=by
 refine Pure.w c42 λR J=>?_
 unfold s42 r42
 by_cases I:a.length=b.length
 ·have F:decide ((a.length:Int)≠(b.length:Int))=false:=by simp[I]
  (repeat' (first|(with_reducible (refine ab (λh=>?_) (λh=>?_))<;>(try simp only[DZ]at h))|(with_reducible refine AI (by omega) ?_)|simp only[EVz,seval,↓reduceIte,EV6,EV7,F,E.yes,E.le0,E.lt',E.get,E.row,T,M.row,M.lt']|simp only[EVz,seval,↓reduceIte,EV6,EV7,F,O]|simp only[EVz,seval,↓reduceIte,EV6,EV7,F]|(refine ap E () ?_ (Weak.rfl' _ _))|(refine ay (a) (λi r (c:Unit)=>a.length=b.length/\decide (a=b)=decide (r=b.drop i)) (λi c=>[(0,.lst 4 (a.map Wd.cs)),(1,.lst 4 (b.map Wd.cs)),(5,.int .i64 i)]) (λ_ _=>[]) () (by((simp[*];done))) (Weak.rfl' _ _) (by omega) (λi x r c D E T=>?_) (λc D O=>?_)<;>(try(obtain⟨y,r2,M,V,D⟩:=dv D E;(cases x;cases y))))))
  (all_goals(first|(refine RET.eq J ?_;first|(simp_all[I];done)|grind)|(simp_all[I];done)))
 ·have F:decide ((a.length:Int)≠(b.length:Int))=true:=by simp;omega
  have N:decide (a=b)=false:=by simp;rintro rfl;exact I rfl
  rw[N]at J
  (repeat' (simp only[EVz,seval,↓reduceIte,EV6,EV7,F]))
  (all_goals((exact RET.eq J rfl)))
theorem f192 (a b:List (List UInt8)) (X:a.length<9000000000000000000):Pure G Tryz.prog 192 [.lst 1 (a.map srow),.lst 1 (b.map srow)] (.bool (decide (a=b))):=by
 refine Pure.w c192 λR J=>?_
 unfold s192 r192
 by_cases I:a.length=b.length
 ·have F:decide ((a.length:Int)≠(b.length:Int))=false:=by simp[I]
  (repeat' (first|(with_reducible (refine ab (λh=>?_) (λh=>?_))<;>(try simp only[DZ]at h))|(with_reducible refine AI (by omega) ?_)|simp only[EVz,seval,↓reduceIte,EV6,EV7,F,E.yes,E.le0,E.lt',E.get,E.row,T,M.row,M.lt']|simp only[EVz,seval,↓reduceIte,EV6,EV7,F,O]|simp only[EVz,seval,↓reduceIte,EV6,EV7,F]|(refine ap E () ?_ (Weak.rfl' _ _))|(refine ay (a) (λi r (c:Unit)=>a.length=b.length/\decide (a=b)=decide (r=b.drop i)) (λi c=>[(0,.lst 1 (a.map srow)),(1,.lst 1 (b.map srow)),(12,.int .i64 a.length),(13,.int .i64 i)]) (λ_ _=>[]) () (by((simp[*];done))) (Weak.rfl' _ _) (by omega) (λi x r c D E T=>?_) (λc D O=>?_)<;>(try(obtain⟨y,r2,M,V,D⟩:=dv D E;skip)))))
  (all_goals(first|(refine RET.eq J ?_;((simp_all[I];done)))|(simp_all[I];done)))
 ·have F:decide ((a.length:Int)≠(b.length:Int))=true:=by simp;omega
  have N:decide (a=b)=false:=by simp;rintro rfl;exact I rfl
  rw[N]at J
  (repeat' (simp only[EVz,seval,↓reduceIte,EV6,EV7,F]))
  (all_goals((exact RET.eq J rfl)))
theorem f191 (a b:List Stp) (X:a.length<9000000000000000000):Pure G Tryz.prog 191 [.lst 2 (a.map Stp.cs),.lst 2 (b.map Stp.cs)] (.bool (decide (a=b))):=by
 refine Pure.w c191 λR J=>?_
 unfold s191 r191
 by_cases I:a.length=b.length
 ·have F:decide ((a.length:Int)≠(b.length:Int))=false:=by simp[I]
  (repeat' (first|(with_reducible (refine ab (λh=>?_) (λh=>?_))<;>(try simp only[DZ]at h))|(with_reducible refine AI (by omega) ?_)|simp only[EVz,seval,↓reduceIte,EV6,EV7,F,E.yes,E.le0,E.lt',E.get,E.row,T,M.row,M.lt']|simp only[EVz,seval,↓reduceIte,EV6,EV7,F,O]|simp only[EVz,seval,↓reduceIte,EV6,EV7,F]|(refine ap E () ?_ (Weak.rfl' _ _))|(refine ay (a) (λi r (c:Unit)=>a.length=b.length/\decide (a=b)=decide (r=b.drop i)) (λi c=>[(0,.lst 2 (a.map Stp.cs)),(1,.lst 2 (b.map Stp.cs)),(12,.int .i64 a.length),(13,.int .i64 i)]) (λ_ _=>[]) () (by((simp[*];done))) (Weak.rfl' _ _) (by omega) (λi x r c D E T=>?_) (λc D O=>?_)<;>(try(obtain⟨y,r2,M,V,D⟩:=dv D E;(cases x;cases y))))))
  (all_goals(first|(refine RET.eq J ?_;first|(simp_all[I];done)|grind)|(simp_all[I];done)))
 ·have F:decide ((a.length:Int)≠(b.length:Int))=true:=by simp;omega
  have N:decide (a=b)=false:=by simp;rintro rfl;exact I rfl
  rw[N]at J
  (repeat' (simp only[EVz,seval,↓reduceIte,EV6,EV7,F]))
  (all_goals((exact RET.eq J rfl)))
theorem f257 (a b:List Wd) (X:a.length<9000000000000000000):Pure G Tryz.prog 257 [.lst 4 (a.map Wd.cs),.lst 4 (b.map Wd.cs)] (.bool (decide (a=b))):=by
 refine Pure.w c257 λR J=>?_
 unfold s257 r257
 by_cases I:a.length=b.length
 ·have F:decide ((a.length:Int)≠(b.length:Int))=false:=by simp[I]
  (repeat' (first|(with_reducible (refine ab (λh=>?_) (λh=>?_))<;>(try simp only[DZ]at h))|(with_reducible refine AI (by omega) ?_)|simp only[EVz,seval,↓reduceIte,EV6,EV7,F,E.yes,E.le0,E.lt',E.get,E.row,T,M.row,M.lt']|simp only[EVz,seval,↓reduceIte,EV6,EV7,F,O]|simp only[EVz,seval,↓reduceIte,EV6,EV7,F]|(refine ap E () ?_ (Weak.rfl' _ _))|(refine ay (a) (λi r (c:Unit)=>a.length=b.length/\decide (a=b)=decide (r=b.drop i)) (λi c=>[(0,.lst 4 (a.map Wd.cs)),(1,.lst 4 (b.map Wd.cs)),(12,.int .i64 a.length),(13,.int .i64 i)]) (λ_ _=>[]) () (by((simp[*];done))) (Weak.rfl' _ _) (by omega) (λi x r c D E T=>?_) (λc D O=>?_)<;>(try(obtain⟨y,r2,M,V,D⟩:=dv D E;(cases x;cases y))))))
  (all_goals(first|(refine RET.eq J ?_;first|(simp_all[I];done)|grind)|(simp_all[I];done)))
 ·have F:decide ((a.length:Int)≠(b.length:Int))=true:=by simp;omega
  have N:decide (a=b)=false:=by simp;rintro rfl;exact I rfl
  rw[N]at J
  (repeat' (simp only[EVz,seval,↓reduceIte,EV6,EV7,F]))
  (all_goals((exact RET.eq J rfl)))
end
def idxF {α:Type} (p:α->Bool):Nat->List α->Int
 |_,[]=>-1
 |i,x::r=>if p x then (i:Int)else idxF p (i+1) r
theorem d7 {α:Type} (p:α->Bool):∀(l:List α) (i:Nat),decide (0<=idxF p i l)=l.any p
 |[],i=>rfl
 |x::r,i=>by
  unfold idxF
  cases h:p x with
  |true=>simp[h]
  |false=>simp[h];simpa using d7 p r (i+1)
def dq (l:List (List UInt8)):Bool:=decide ((l.length:Int)<=256)&&l.all bf
def irow (n:Int):List AV:=[.int .i64 n]
theorem mo (n:Int):irow n=[.int .i64 n]:=(rfl)
def brow (c:UInt8):List AV:=[.int .u8 c.toNat]
theorem li (l:List UInt8):dQ l=l.map brow:=rfl
theorem mM (c:UInt8):brow c=[.int .u8 c.toNat]:=(rfl)
theorem gw {α:Type} (p:α->Bool) (l:List α):(!l.any λx=>!p x)=l.all p:=by
 induction l with
 |nil=>rfl
 |cons x r ih=>simp[←ih]
section
variable (G:Glob)
theorem f296 (c:UInt8):Pure G Tryz.prog 296 [.int .u8 c.toNat] (.bool (!okCh c)):=by
 refine Pure.w c296 λR D=>?_
 unfold s296 r296
 (repeat' (first|(with_reducible (refine ai (λh=>?_) (λh=>?_))<;>(try simp only[DZ]at h))|simp only[EVz,seval,↓reduceIte,EV6,EV7]))
 (all_goals(((refine RET.eq D ?_;(refine congrArg AV.bool (Bool.eq_iff_iff.2 ?_);simp only[okCh,EVB]at*;omega)))))
theorem f318 (f:Value) (p:UInt8->Bool) (l:List UInt8) (N:l.length<9000000000000000000) (I:∀x∈l,eZ G Tryz.prog f [.int .u8 x.toNat] (.bool (p x))):Pure G Tryz.prog 318 [.lst 1 (l.map brow),.sc f] (.int .i64 (idxF p 0 l)):=by
 refine Pure.w c318 λR F=>?_
 unfold s318 r318
 (repeat' (first|(with_reducible (refine ab (λh=>?_) (λh=>?_))<;>(try simp only[DZ]at h))|simp only[EVz,seval,↓reduceIte,EV6,EV7,mM,D.yes,D.le0,D.lt',D.get,D.row,M]|simp only[EVz,seval,↓reduceIte,EV6,EV7,mM,J]|simp only[EVz,seval,↓reduceIte,EV6,EV7,mM]|(refine ap D () ?_ (Weak.rfl' _ _))|(refine ay (l) (λi r (c:Unit)=>idxF p 0 l=idxF p i r) (λi c=>[(0,.lst 1 (l.map brow)),(1,.sc f),(7,.int .i64 l.length),(8,.int .i64 i)]) (λ_ _=>[]) () (by rfl) (Weak.rfl' _ _) (by omega) (λi x r c E D M=>?_) (λc E J=>?_))|(refine aI (I _ D.mem) ?_)))
 (all_goals(first|(refine RET.eq F ?_;first|(simp only[idxF,E,EVC,decide_true,decide_false];done)|(simp_all[idxF];done))|(simp_all[idxF];done)))
theorem f297 (f:Value) (p:UInt8->Bool) (l:List UInt8) (F:l.length<9000000000000000000) (E:∀x∈l,eZ G Tryz.prog f [.int .u8 x.toNat] (.bool (p x))):Pure G Tryz.prog 297 [.lst 1 (l.map brow),.sc f] (.bool (l.any p)):=by
 refine Pure.w c297 λR D=>?_
 unfold s297 r297
 (repeat' (first|(with_reducible refine aa (f318 G f p l F E) ?_)|simp only[EVz,seval,↓reduceIte,EV6,EV7]))
 (all_goals(((refine RET.eq D ?_;((simp_all[d7];done))))))
theorem f295 (f:Value) (p:List UInt8->Bool) (l:List (List UInt8)) (N:l.length<9000000000000000000) (I:∀x∈l,eZ G Tryz.prog f [.str x] (.bool (p x))):Pure G Tryz.prog 295 [.lst 1 (l.map srow),.sc f] (.int .i64 (idxF p 0 l)):=by
 refine Pure.w c295 λR F=>?_
 unfold s295 r295
 (repeat' (first|(with_reducible (refine ab (λh=>?_) (λh=>?_))<;>(try simp only[DZ]at h))|simp only[EVz,seval,↓reduceIte,EV6,EV7,D.yes,D.le0,D.lt',D.get,D.row,M]|simp only[EVz,seval,↓reduceIte,EV6,EV7,J]|simp only[EVz,seval,↓reduceIte,EV6,EV7]|(refine ap D () ?_ (Weak.rfl' _ _))|(refine ay (l) (λi r (c:Unit)=>idxF p 0 l=idxF p i r) (λi c=>[(0,.lst 1 (l.map srow)),(1,.sc f),(7,.int .i64 l.length),(8,.int .i64 i)]) (λ_ _=>[]) () (by rfl) (Weak.rfl' _ _) (by omega) (λi x r c E D M=>?_) (λc E J=>?_))|(refine aI (I _ D.mem) ?_)))
 (all_goals(first|(refine RET.eq F ?_;first|(simp only[idxF,E,EVC,decide_true,decide_false];done)|(simp_all[idxF];done))|(simp_all[idxF];done)))
theorem f269 (f:Value) (p:List UInt8->Bool) (l:List (List UInt8)) (F:l.length<9000000000000000000) (E:∀x∈l,eZ G Tryz.prog f [.str x] (.bool (p x))):Pure G Tryz.prog 269 [.lst 1 (l.map srow),.sc f] (.bool (l.any p)):=by
 refine Pure.w c269 λR D=>?_
 unfold s269 r269
 (repeat' (first|(with_reducible refine aa (f295 G f p l F E) ?_)|simp only[EVz,seval,↓reduceIte,EV6,EV7]))
 (all_goals(((refine RET.eq D ?_;((simp_all[d7];done))))))
theorem f272 (f:Value) (p:Wd->Bool) (l:List Wd) (N:l.length<9000000000000000000) (I:∀x∈l,eZ G Tryz.prog f [.agg x.cs] (.bool (p x))):Pure G Tryz.prog 272 [.lst 4 (l.map Wd.cs),.sc f] (.int .i64 (idxF p 0 l)):=by
 refine Pure.w c272 λR F=>?_
 unfold s272 r272
 (repeat' (first|(with_reducible (refine ab (λh=>?_) (λh=>?_))<;>(try simp only[DZ]at h))|simp only[EVz,seval,↓reduceIte,EV6,EV7,D.yes,D.le0,D.lt',D.get,D.row,M]|simp only[EVz,seval,↓reduceIte,EV6,EV7,J]|simp only[EVz,seval,↓reduceIte,EV6,EV7]|(refine ap D () ?_ (Weak.rfl' _ _))|(refine ay (l) (λi r (c:Unit)=>idxF p 0 l=idxF p i r) (λi c=>[(0,.lst 4 (l.map Wd.cs)),(1,.sc f),(7,.int .i64 l.length),(8,.int .i64 i)]) (λ_ _=>[]) () (by rfl) (Weak.rfl' _ _) (by omega) (λi x r c E D M=>?_) (λc E J=>?_))|(refine aI (I _ D.mem) ?_)))
 (all_goals(first|(refine RET.eq F ?_;first|(simp only[idxF,E,EVC,decide_true,decide_false];done)|(simp_all[idxF];done))|(simp_all[idxF];done)))
theorem f225 (f:Value) (p:Wd->Bool) (l:List Wd) (F:l.length<9000000000000000000) (E:∀x∈l,eZ G Tryz.prog f [.agg x.cs] (.bool (p x))):Pure G Tryz.prog 225 [.lst 4 (l.map Wd.cs),.sc f] (.bool (l.any p)):=by
 refine Pure.w c225 λR D=>?_
 unfold s225 r225
 (repeat' (first|(with_reducible refine aa (f272 G f p l F E) ?_)|simp only[EVz,seval,↓reduceIte,EV6,EV7]))
 (all_goals(((refine RET.eq D ?_;((simp_all[d7];done))))))
theorem f266 (l:List Int) (k:Int) (M:l.length<9000000000000000000):Pure G Tryz.prog 266 [.lst 1 (l.map irow),.int .i64 k] (.int .i64 (idxF (λx=>decide (k=x)) 0 l)):=by
 refine Pure.w c266 λR F=>?_
 unfold s266 r266
 (repeat' (first|(with_reducible (refine ab (λh=>?_) (λh=>?_))<;>(try simp only[DZ]at h))|simp only[EVz,seval,↓reduceIte,EV6,EV7,mo,D.yes,D.le0,D.lt',D.get,D.row,J]|simp only[EVz,seval,↓reduceIte,EV6,EV7,mo,I]|simp only[EVz,seval,↓reduceIte,EV6,EV7,mo]|(refine ap D () ?_ (Weak.rfl' _ _))|(refine ay (l) (λi r (c:Unit)=>idxF (λx=>decide (k=x)) 0 l=idxF (λx=>decide (k=x)) i r) (λi c=>[(0,.lst 1 (l.map irow)),(1,.int .i64 k),(7,.int .i64 l.length),(8,.int .i64 i)]) (λ_ _=>[]) () (by rfl) (Weak.rfl' _ _) (by omega) (λi x r c E D J=>?_) (λc E I=>?_))))
 (all_goals(first|(refine RET.eq F ?_;first|(simp only[idxF,E,EVC,decide_true,decide_false];done)|(simp_all[idxF];done))|(simp_all[idxF];done)))
theorem f213 (l:List Int) (k:Int) (E:l.length<9000000000000000000):Pure G Tryz.prog 213 [.lst 1 (l.map irow),.int .i64 k] (.bool (l.any λx=>decide (k=x))):=by
 refine Pure.w c213 λR D=>?_
 unfold s213 r213
 (repeat' (first|(with_reducible refine aa (f266 G l k E) ?_)|simp only[EVz,seval,↓reduceIte,EV6,EV7]))
 (all_goals(((refine RET.eq D ?_;((simp_all[d7];done))))))
theorem f271 (s:List UInt8):Pure G Tryz.prog 271 [.str s] (.bool (bf s)):=by
 refine Pure.w c271 λR D=>?_
 unfold s271 r271
 (repeat' (first|(with_reducible (refine ai (λh=>?_) (λh=>?_))<;>(try simp only[DZ]at h))|(with_reducible refine aa (f297 G _ (λc=>!okCh c) s (by omega) (λx _=>(f296 G x).v)) ?_)|simp only[EVz,seval,↓reduceIte,EV6,EV7,li,gw]|(refine mL (l:=s) (elem:=5) rfl (by omega) (by kernel_rfl) (by kernel_rfl) (by kernel_rfl) ?_)))
 all_goals(try have E:(1:Int)<=s.length:=by have:0<s.length:=length_pos_iff.2 (by assumption);omega)
 (all_goals(first|(refine RET.eq D ?_;(refine congrArg AV.bool (Bool.eq_iff_iff.2 ?_);simp only[bf,gw,EVB]at*;omega))|(refine RET.eq D ?_;((simp_all[bf,gw];done)))))
end
theorem appX_oneF {e:TypeId} {sz bytes:Nat} {σ:Store} {g:Option Nat} {rows ys:List (List AV)} {K:AV->Store->Prop} (κ:Store) (N:∀b,g=some b->σ.get b=some (.tok e (rows.length*sz))) (I:Fits (rows.length+ys.length) bytes)
  (D:SubN κ (σ.erase g)) (O:∀E,(∀b,E=some b->b∉κ.keys)->K (.own E e sz (rows++ys)) (κ++tokS E e ((rows++ys).length*sz))):appX e sz bytes σ g rows ys K:=by
 refine⟨N,I,λE _ J=>⟨κ++tokS E e ((rows++ys).length*sz),⟨?_,?_⟩,O E (λb I T=>J b I (ct D.1 T))⟩⟩
 ·intro p F
  rcases mem_append.1 F with F|F
  ·exact mem_append.2 (.inr (D.1 p F))
  ·exact mem_append.2 (.inl F)
 ·intro M
  rw[az]at M ⊢
  obtain⟨Y,Z,n3⟩:=nodup_append.1 M
  exact nodup_append.2 ⟨D.2 Z,Y,λx V y X e=>n3 y X x (ct D.1 V) e.symm⟩
theorem fM {e:TypeId} {sz bytes:Nat} {σ:Store} {g:Option Nat} {rows ys:List (List AV)} {K:AV->Store->Prop} (κ:Store) (I:∀b,g=some b->σ.get b=some (.tok e (rows.length*sz))) (F:(rows.length+ys.length)*bytes<=140737488355328)
  (E:SubN κ (σ.erase g)) (J:∀D,(∀b,D=some b->b∉κ.keys)->K (.own D e sz (rows++ys)) (κ++tokS D e ((rows++ys).length*sz))):appX e sz bytes σ g rows ys K:=appX_oneF κ I (.inl F) E J
theorem gi {e:TypeId} {sz bytes n m m':Nat} {τ:Store} {g:Option Nat} {rows:List (List AV)} {cs:List AV} {K:AV->Store->Prop} {b k1:Nat} (I:∀d,g=some d->τ.get d=some (.tok e m)) (Y:rows.length=n) (V:m=n*sz) (F:m'=(n+1)*sz) (T:cs.length=sz)
  (M:b∉τ.keys) (X:(n+1)*bytes<=140737488355328) (O:∀D,K (.own D e sz (rows++[cs])) (tokS D e m')):
  ∃E:List (List AV),E.length=1/\(∀r∈E,r.length=sz)/\E.flatten=cs/\appX e sz bytes ((b,.tok e k1)::τ) g rows E K:=by
 subst V F Y
 refine⟨[cs],rfl,by simpa using T,by simp,fM [] (λd N=>?_) (by simpa using X) (SubN.nil _) (λD _=>by simpa using O D)⟩
 have J:=I d N
 have:¬b=d:=by
  rintro rfl
  exact M (mem_map.2 ⟨_,Store.get_mem J,rfl⟩)
 simp only[Store.get,if_neg this]
 exact J
theorem Weak.sub {G:Glob} {env:Env} {σ σ':Store} (D:SubN σ' σ):Weak G env σ env σ':=λρ w tmps F E=>⟨F.subN D,Ev.of_sub D.1 w,λj=>Rep.ev (Ev.of_sub D.1 w) _ _ (E j)⟩
theorem iR {g:Option Nat} {e:TypeId} {k:Nat}:∀d,g=some d->(tokS g e k).get d=some (.tok e k):=by
 rintro d rfl;simp[tokS,Store.get]
theorem d5 {g:Option Nat} {e:TypeId} {k c:Nat} {y:AObj} (D:c∉(tokS g e k).keys):∀d,g=some d->Store.get ((c,y)::tokS g e k) d=some (.tok e k):=by
 rintro d rfl
 have:¬c=d:=by rintro rfl;exact D (by simp[tokS,Store.keys])
 simp[tokS,Store.get,this]
theorem lk {g:Option Nat} {e:TypeId} {k c c2:Nat} {y J:AObj} (I:c∉(tokS g e k).keys) (D:c2∉Store.keys ((c,y)::tokS g e k)):∀d,g=some d->Store.get ((c2,J)::(c,y)::tokS g e k) d=some (.tok e k):=by
 rintro d rfl
 have E:¬c=d:=by rintro rfl;exact I (by simp[tokS,Store.keys])
 have F:¬c2=d:=by rintro rfl;exact D (by simp[tokS,Store.keys])
 simp[tokS,Store.get,E,F]
section
variable (G:Glob)
theorem f270 (s:List UInt8):Pure G Tryz.prog 270 [.str s] (.bool (!bf s)):=by
 refine Pure.w c270 λR D=>?_
 unfold s270 r270
 (repeat' (first|(with_reducible refine aa (f271 G _) ?_)|simp only[EVz,seval,↓reduceIte,EV6,EV7]))
 (all_goals((exact RET.eq D rfl)))
theorem f223 (l:List (List UInt8)) (E:l.length<9000000000000000000):Pure G Tryz.prog 223 [.lst 1 (l.map srow)] (.bool (dq l)):=by
 refine Pure.w c223 λR D=>?_
 unfold s223 r223
 (repeat' (first|(with_reducible (refine ai (λh=>?_) (λh=>?_))<;>(try simp only[DZ]at h))|(with_reducible refine aa (f269 G _ (λc=>!bf c) l E (λx _=>(f270 G x).v)) ?_)|simp only[EVz,seval,↓reduceIte,EV6,EV7,gw]))
 (all_goals(first|(refine RET.eq D ?_;(refine congrArg AV.bool (Bool.eq_iff_iff.2 ?_);simp only[dq,gw,EVB]at*;omega))|(refine RET.eq D ?_;((simp_all[dq,gw];done)))))
theorem f316 (l:List (List UInt8)) (M:l.length<9000000000000000000):Pure G Tryz.prog 316 [.lst 1 (l.map srow)] (.bool (dq l)):=by
 refine Pure.w c316 λR F=>?_
 unfold s316 r316
 (repeat' (first|(with_reducible (refine ab (λh=>?_) (λh=>?_))<;>(try simp only[DZ]at h))|(with_reducible refine aa (f81 G _) ?_)|simp only[EVz,seval,↓reduceIte,EV6,EV7,E.yes,E.le0,E.lt',E.get,E.row,J]|simp only[EVz,seval,↓reduceIte,EV6,EV7,I]|simp only[EVz,seval,↓reduceIte,EV6,EV7]|(refine ap E () ?_ (Weak.rfl' _ _))|(refine ay (l) (λi r (c:Unit)=>l.all bf=r.all bf) (λi c=>[(0,.lst 1 (l.map srow)),(3,.int .i64 i)]) (λ_ _=>[]) () (by rfl) (Weak.rfl' _ _) (by omega) (λi x r c D E J=>?_) (λc D I=>?_))))
 (all_goals(first|(refine RET.eq F ?_;(refine congrArg AV.bool (Bool.eq_iff_iff.2 ?_);simp only[dq,EVB]at*;omega))|(refine RET.eq F ?_;((simp only[dq,D,h,EVC,decide_true,decide_false];done)))|(rw[D];simp only[dq,h,EVC,decide_true,decide_false];done)))
theorem f173 (l:List (List UInt8)) (n:Int) (E:l.length<9000000000000000000):Pure G Tryz.prog 173 [.lst 1 (l.map srow),.int .i64 n] (.bool (dq l&&decide (n<=(l.length:Int)))):=by
 refine Pure.w c173 λR D=>?_
 unfold s173 r173
 (repeat' (first|(with_reducible (refine ai (λh=>?_) (λh=>?_))<;>(try simp only[DZ]at h))|(with_reducible refine aa (f223 G _ E) ?_)|simp only[EVz,seval,↓reduceIte,EV6,EV7]))
 (all_goals(((refine RET.eq D ?_;((simp_all[];done))))))
def wdOk (w:Wd):Bool:=bf w.text
def aU (l:List Wd):Bool:=decide ((l.length:Int)<=256)&&l.all wdOk
theorem f317 (l:List Wd) (X:l.length<1000000):Pure G Tryz.prog 317 [.lst 4 (l.map Wd.cs)] (.lst 1 ((l.map Wd.text).map srow)):=by
 refine Pure.w c317 λR N=>?_
 unfold s317 r317
 (repeat' (first|simp only[EVz,seval,↓reduceIte,EV6,EV7,D.yes,D.le0,D.lt',D.get,D.row,V]|simp only[EVz,seval,↓reduceIte,EV6,EV7,O]|simp only[EVz,seval,↓reduceIte,EV6,EV7]|(with_reducible intro I E;(try(have F:=E;simp only[EVK]at F;(have T:=F))))|(refine⟨[],rfl,(by simp),rfl,?_⟩)|(refine ay (ι:=Option Nat) (l) (λi r c=>True) (λi c=>[(0,.lst 4 (l.map Wd.cs)),(3,.own c 9 1 ((l.take i).map (λw=>[AV.str w.text]))),(4,.int .i64 i)]) (λi c=>tokS c 9 (i)) (some I) (by trivial) (Weak.rfl' _ _) (by omega) (λi x r c J D V=>?_) (λc J O=>?_))|(refine gi (n:=i) (m':=(i+1)) (by exact iR) (by simp;have:=D.lt;omega) (by omega) (by omega) rfl (by assumption) (by have:=D.lt;omega) (λM=>?_))|(refine ap D M ?_ (by simp only[D.take,map_append,map_cons,map_nil];exact Weak.rfl' _ _))))
 (all_goals(((refine N _ _ (Or.inl (Or.inr ⟨rfl,?_⟩));simp[mc,Function.comp_def];done))))
end
theorem mP (l:List Wd):(l.map Wd.text).all bf=l.all wdOk:=by simp only[all_map];rfl
theorem gQ (l:List Wd):dq (l.map Wd.text)=aU l:=by unfold dq aU;rw[mP,length_map]
def jC (c:UInt8):Bool:=decide ((48:Int)<=c.toNat)&&decide ((c.toNat:Int)<=57)
def isUp (c:UInt8):Bool:=decide ((65:Int)<=c.toNat)&&decide ((c.toNat:Int)<=90)
def isLow (c:UInt8):Bool:=decide ((97:Int)<=c.toNat)&&decide ((c.toNat:Int)<=122)
def kt (c:UInt8):Bool:=isLow c||(jC c||decide ((c.toNat:Int)=45))
def ii (s:List UInt8):Bool:=decide ((1:Int)<=s.length)&&(decide ((s.length:Int)<=16)&&(isLow (s.getD 0 0)&&s.all kt))
def digN:List UInt8->Nat
 |[]=>0
 |c::s=>if jC c then digN s+1 else 0
theorem jO:∀s:List UInt8,digN s<=s.length
 |[]=>Nat.le_refl _
 |c::s=>by unfold digN;have:=jO s;split<;>simp<;>omega
def br (s:List UInt8):Bool:=decide ((1:Int)<=digN s)&&(decide ((digN s:Int)<=4)&&(!decide (((s.getD 0 0).toNat:Int)=48)&&(decide (((s.length-digN s:Nat):Int)<=3)&&(s.drop (digN s)).all isUp)))
def i8 (i:Nat) (s:Stp):Bool:=(decide (i=0)&&(decide (s.kind=0)&&decide (s.label=[])))||(decide (1<=s.kind)&&(decide (s.kind<=7)&&br s.label))
def d8:Nat->List Stp->Bool
 |_,[]=>true
 |i,s::l=>i8 i s&&d8 (i+1) l
def dU (p:List Stp):Bool:=decide ((p.length:Int)<=9)&&d8 0 p
def mJ (s:Sta):Bool:=
 if s.kind=1 then inR s.day 0 1048576&&decide (s.event=[])else if s.kind=3 then decide (s.day=0)&&ii s.event else if s.kind=0\/s.kind=2 then decide (s.day=0)&&decide (s.event=[])else false
section
variable (G:Glob)
theorem f291 (l:List Wd) (E:l.length<1000000):Pure G Tryz.prog 291 [.lst 4 (l.map Wd.cs)] (.bool (aU l)):=by
 refine Pure.w c291 λR D=>?_
 unfold s291 r291
 (repeat' (first|(with_reducible (refine ai (λh=>?_) (λh=>?_))<;>(try simp only[DZ]at h))|(with_reducible first|refine aa (f317 G _ E) ?_|refine aa (f316 G (l.map Wd.text) (by simp;omega)) ?_)|simp only[EVz,seval,↓reduceIte,EV6,EV7,gQ]))
 (all_goals(first|(exact RET.eq D rfl)|(refine RET.eq D ?_;(refine congrArg AV.bool (Bool.eq_iff_iff.2 ?_);simp only[aU,EVB]at*;omega))))
theorem f293 (l:List Wd) (X:l.length<1000000):Pure G Tryz.prog 293 [.lst 4 (l.map Wd.cs)] (.bool (aU l)):=by
 refine Pure.w c293 λR J=>?_
 unfold s293 r293
 (repeat' (first|(with_reducible (refine ai (λh=>?_) (λh=>?_))<;>(try simp only[DZ]at h))|simp only[EVz,seval,↓reduceIte,EV6,EV7,gQ,D.yes,D.le0,D.lt',D.get,D.row,V]|simp only[EVz,seval,↓reduceIte,EV6,EV7,gQ,O]|simp only[EVz,seval,↓reduceIte,EV6,EV7,gQ]|(with_reducible intro M E;(try(have F:=E;simp only[EVK]at F;(have T:=F))))|(refine ay (ι:=Option Nat) (l) (λi r c=>True) (λi c=>[(0,.lst 4 (l.map Wd.cs)),(3,.own c 9 1 ((l.take i).map (λw=>[AV.str w.text]))),(6,.lst 4 (l.map Wd.cs)),(7,.int .i64 l.length),(8,.int .i64 i)]) (λi c=>tokS c 9 (i)) (none) (by trivial) (Weak.of (by simp[eJ,Env.get,AVle,aR]) (SubN.refl _)) (by omega) (λi x r c I D V=>?_) (λc I O=>?_))|(refine gi (n:=i) (m':=(i+1)) (by exact d5 (by assumption)) (by simp;have:=D.lt;omega) (by omega) (by omega) rfl (by assumption) (by have:=D.lt;omega) (λN=>?_))|(refine ap D N ?_ (by simp only[D.take,map_append,map_cons,map_nil];exact Weak.rfl' _ _))|(refine aE (f223 G (l.map Wd.text) (by simp;omega)) ⟨.inl (.inr ⟨rfl,by simp[Function.comp_def,mc]⟩),trivial⟩ ?_)))
 (all_goals(first|(exact RET.eq J rfl)|(refine RET.eq J ?_;(refine congrArg AV.bool (Bool.eq_iff_iff.2 ?_);simp only[aU,EVB]at*;omega))))
theorem f142 (s:List UInt8) (M:s.length<1000000000000000000):Pure G Tryz.prog 142 [.str s] (.int .i64 (digN s)):=by
 refine Pure.w c142 λR F=>?_
 unfold s142 r142
 (repeat' (first|(with_reducible (first|refine ab (λh=>?_) (λh=>?_)|refine ai (λh=>?_) (λh=>?_))<;>(try simp only[DZ]at h))|simp only[EVz,seval,↓reduceIte,EV6,EV7,E.yes,E.le0,E.lt',E.get,E.row,J]|simp only[EVz,seval,↓reduceIte,EV6,EV7,I]|simp only[EVz,seval,↓reduceIte,EV6,EV7]|(refine ap E () ?_ (Weak.rfl' _ _))|(refine ay (s) (λi r (c:Unit)=>digN s=i+digN r) (λi c=>[(0,.str s),(3,.int .i64 i)]) (λ_ _=>[]) () (by((simp;done))) (Weak.rfl' _ _) (by omega) (λi x r c D E J=>?_) (λc D I=>?_))))
 ·have e:digN s=i+1+digN r:=by
   rw[D,digN,if_pos (by simp[jC];omega)]
   omega
  exact e
 ·have e:digN s=i:=by rw[D,digN,if_neg (by simp[jC];omega)];rfl
  exact RET.eq F (by rw[e])
 ·have e:digN s=i:=by rw[D,digN,if_neg (by simp[jC];omega)];rfl
  exact RET.eq F (by rw[e])
 ·exact RET.eq F (by rw[D];simp[digN])
end
end Go.Av
