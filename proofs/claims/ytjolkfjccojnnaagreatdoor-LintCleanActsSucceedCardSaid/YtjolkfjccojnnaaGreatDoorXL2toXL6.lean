/-
  LINT, 2: the small functions of the reference and of the program.
-/
import Derived.Test.YtjolkfjccojnnaaGreatDoorXC1
import Derived.Test.YtjolkfjccojnnaaGreatDoorXC2
import Derived.Test.YtjolkfjccojnnaaGreatDoorXC3
namespace Go.Av
open Go Go.RowKit Go.Proofs List
set_option linter.unusedSimpArgs false
set_option linter.unusedVariables false
def l5 (p:List Stp):Bool:=decide (p=[])||decide (p=[⟨0,[]⟩])
def inR (n lo hi:Int):Bool:=decide (lo<=n)&&decide (n<=hi)
def g6 (p k:Int):Bool:=
 if p=0 then decide (k=1)||decide (k=2)else if p=1 then decide (k=2)else if p=2\/p=3 then decide (k=3)||decide (k=4)||decide (k=7)else if p=4 then decide (k=5)else if p=5 then decide (k=6)else false
section
variable (G:Glob)
theorem f22 (n lo hi:Int):Pure G Tryz.prog 22 [.int .i64 n,.int .i64 lo,.int .i64 hi] (.bool (inR n lo hi)):=by
 refine Pure.w c22 λR hR=>?_
 unfold s22 r22
 (repeat' (first|(with_reducible (refine ag (λh=>?_) (λh=>?_))<;>(try simp only[Da,Db,Dc,Dw,De,Df,Dg,Dh]at h))|simp only[EVz,seval,↓reduceIte,EV6,EV7]|fail))
 (all_goals(((refine RET.eq hR ?_;(refine congrArg AV.bool (Bool.eq_iff_iff.2 ?_);simp only[inR,EVB]at*;omega)))))
theorem f148 (n lo hi:Int):Pure G Tryz.prog 148 [.int .i64 n,.int .i64 lo,.int .i64 hi] (.bool (inR n lo hi)):=by
 refine Pure.w c148 λR hR=>?_
 unfold s148 r148
 (repeat' (first|(with_reducible (refine ag (λh=>?_) (λh=>?_))<;>(try simp only[Da,Db,Dc,Dw,De,Df,Dg,Dh]at h))|simp only[EVz,seval,↓reduceIte,EV6,EV7]|fail))
 (all_goals(((refine RET.eq hR ?_;(refine congrArg AV.bool (Bool.eq_iff_iff.2 ?_);simp only[inR,EVB]at*;omega)))))
theorem f158 (p k:Int):Pure G Tryz.prog 158 [.int .i64 p,.int .i64 k] (.bool (g6 p k)):=by
 refine Pure.w c158 λR hR=>?_
 unfold s158 r158
 (repeat' (first|(with_reducible (first|refine ae (λh=>?_) (λh=>?_)|refine ag (λh=>?_) (λh=>?_))<;>(try simp only[Da,Db,Dc,Dw,De,Df,Dg,Dh]at h))|simp only[EVz,seval,↓reduceIte,EV6,EV7]|(exfalso;omega)|fail))
 (all_goals(((refine RET.eq hR ?_;((simp_all[g6];done))))))
theorem f160 (p k:Int):Pure G Tryz.prog 160 [.int .i64 p,.int .i64 k] (.bool (g6 p k)):=by
 refine Pure.w c160 λR hR=>?_
 unfold s160 r160
 (repeat' (first|(with_reducible (first|refine ae (λh=>?_) (λh=>?_)|refine ag (λh=>?_) (λh=>?_))<;>(try simp only[Da,Db,Dc,Dw,De,Df,Dg,Dh]at h))|simp only[EVz,seval,↓reduceIte,EV6,EV7]|fail))
 (all_goals(((refine RET.eq hR ?_;((simp_all[g6];done))))))
end
def iz:Itm:=⟨0,[],[],0,0,⟨⟨0,0,0⟩,0,[],[],[],[]⟩,[],[],[],[],⟨0,0,[]⟩,0,0,0,[],[]⟩
def m0 (p:List Stp):Stp:=if l5 p then ⟨0,[]⟩else p.getLastD ⟨0,[]⟩
theorem last_row (p:List Stp) (h:p≠[]):(p.map Stp.cs).getD (p.length-1) []=[.int .i64 (p.getLastD ⟨0,[]⟩).kind,.str (p.getLastD ⟨0,[]⟩).label]:=by
 have hl:0<p.length:=length_pos_iff.2 h
 rw[getLastD_eq_getLast?,getLast?_eq_getElem?]
 simp[List.getD,show p.length-1<p.length by omega,Stp.cs]
theorem qV {p:List Stp} (h:l5 p=false):p≠[]:=by
 rintro rfl;simp[l5]at h
section
variable (G:Glob)
theorem f68 (k:Int):Pure G Tryz.prog 68 [.int .i64 k] (.bool (inR k 0 6)):=by
 refine Pure.w c68 λR hR=>?_
 unfold s68 r68
 (repeat' (first|(with_reducible (refine ag (λh=>?_) (λh=>?_))<;>(try simp only[Da,Db,Dc,Dw,De,Df,Dg,Dh]at h))|simp only[EVz,seval,↓reduceIte,EV6,EV7]|fail))
 (all_goals(((refine RET.eq hR ?_;(refine congrArg AV.bool (Bool.eq_iff_iff.2 ?_);simp only[inR,EVB]at*;omega)))))
theorem f49 (k:Int) (l:List UInt8):Pure G Tryz.prog 49 [.agg [.int .i64 k,.str l]] (.bool (decide (k=0)&&decide (l=[]))):=by
 refine Pure.w c49 λR hR=>?_
 unfold s49 r49
 (repeat' (first|(with_reducible (refine ag (λh=>?_) (λh=>?_))<;>(try simp only[Da,Db,Dc,Dw,De,Df,Dg,Dh]at h))|simp only[EVz,seval,↓reduceIte,EV6,EV7]|fail))
 (all_goals(first|(refine RET.eq hR ?_;(refine congrArg AV.bool (Bool.eq_iff_iff.2 ?_);simp only[EVB]at*;omega))|(refine RET.eq hR ?_;((simp_all[];done)))))
theorem f152 (k:Int) (l:List UInt8):Pure G Tryz.prog 152 [.agg [.int .i64 k,.str l]] (.bool (decide (k=0)&&decide (l=[]))):=by
 refine Pure.w c152 λR hR=>?_
 unfold s152 r152
 (repeat' (first|(with_reducible (refine ag (λh=>?_) (λh=>?_))<;>(try simp only[Da,Db,Dc,Dw,De,Df,Dg,Dh]at h))|simp only[EVz,seval,↓reduceIte,EV6,EV7]|fail))
 (all_goals(first|(refine RET.eq hR ?_;(refine congrArg AV.bool (Bool.eq_iff_iff.2 ?_);simp only[EVB]at*;omega))|(refine RET.eq hR ?_;((simp_all[];done)))))
theorem f129 (k:Int):Pure G Tryz.prog 129 [.int .i64 k] (.bool (inR k 0 3)):=by
 refine Pure.w c129 λR hR=>?_
 unfold s129 r129
 (repeat' (first|(with_reducible refine ab (f148 G _ _ _) ?_)|simp only[EVz,seval,↓reduceIte,EV6,EV7]|fail))
 (all_goals((exact RET.eq hR rfl)))
theorem f136 (x:Itm):Pure G Tryz.prog 136 [.agg x.cs] (.bool (inR x.nth 0 256)):=by
 refine Pure.w c136 λR hR=>?_
 unfold s136 r136
 (repeat' (first|(with_reducible refine ab (f148 G _ _ _) ?_)|simp only[EVz,seval,↓reduceIte,EV6,EV7]|fail))
 (all_goals((exact RET.eq hR rfl)))
theorem f151 (x:Itm) (n:Int):Pure G Tryz.prog 151 [.agg x.cs,.int .i64 n] (.bool (inR x.act 1 1048576&&inR x.item n 31)):=by
 refine Pure.w c151 λR hR=>?_
 unfold s151 r151
 (repeat' (first|(with_reducible (refine ag (λh=>?_) (λh=>?_))<;>(try simp only[Da,Db,Dc,Dw,De,Df,Dg,Dh]at h))|(with_reducible refine ab (f148 G _ _ _) ?_)|simp only[EVz,seval,↓reduceIte,EV6,EV7]|fail))
 (all_goals(((refine RET.eq hR ?_;((simp_all[];done))))))
theorem f77 (x:Itm):Pure G Tryz.prog 77 [.agg x.cs] (.bool (decide (x.wh=2)||decide (x.wh=3))):=by
 refine Pure.w c77 λR hR=>?_
 unfold s77 r77
 (repeat' (first|(with_reducible (refine ag (λh=>?_) (λh=>?_))<;>(try simp only[Da,Db,Dc,Dw,De,Df,Dg,Dh]at h))|simp only[EVz,seval,↓reduceIte,EV6,EV7]|fail))
 (all_goals(((refine RET.eq hR ?_;(refine congrArg AV.bool (Bool.eq_iff_iff.2 ?_);simp only[EVB]at*;omega)))))
theorem f79 (x:Itm) (k:Int):Pure G Tryz.prog 79 [.agg x.cs,.int .i64 k] (.bool (decide (x.kind=k)&& !(decide (x.wh=2)||decide (x.wh=3)))):=by
 refine Pure.w c79 λR hR=>?_
 unfold s79 r79
 (repeat' (first|(with_reducible (refine ag (λh=>?_) (λh=>?_))<;>(try simp only[Da,Db,Dc,Dw,De,Df,Dg,Dh]at h))|(with_reducible refine ab (f77 G _) ?_)|simp only[EVz,seval,↓reduceIte,EV6,EV7]|fail))
 (all_goals(((refine RET.eq hR ?_;(refine congrArg AV.bool (Bool.eq_iff_iff.2 ?_);simp only[EVB]at*;omega)))))
theorem f76 (p:List Stp):Pure G Tryz.prog 76 [.lst 2 (p.map Stp.cs)] (.bool (l5 p)):=by
 refine Pure.w c76 λR hR=>?_
 unfold s76 r76
 match p with
 |[]=>
  (repeat' (simp only[EVz,seval,↓reduceIte,EV6,EV7]))
  (all_goals((exact RET.eq hR rfl)))
 |[x]=>
  obtain⟨k,l⟩:=x
  (repeat' (simp only[EVz,seval,↓reduceIte,EV6,EV7]))
  (all_goals(((refine RET.eq hR ?_;((simp_all[l5];done))))))
 |x::y::r=>
  (repeat' (first|(with_reducible (refine ag (λh=>?_) (λh=>?_))<;>(try simp only[Da,Db,Dc,Dw,De,Df,Dg,Dh]at h))|(with_reducible refine AI (by omega) ?_)|simp only[EVz,seval,↓reduceIte,EV6,EV7]|(exfalso;omega)|fail))
  (all_goals(((refine RET.eq hR ?_;((simp_all[l5];done))))))
theorem f81 (p:List Stp) (hp:p.length<1000000):Pure G Tryz.prog 81 [.lst 2 (p.map Stp.cs)] (.agg (Stp.cs (m0 p))):=by
 refine Pure.w c81 λR hR=>?_
 unfold s81 r81
 cases hb:l5 p with
 |true=>
  (repeat' (first|(with_reducible refine ab (f76 G _) ?_)|simp only[EVz,seval,↓reduceIte,EV6,EV7,hb]|(with_reducible intro blk hblk;(try(have hnx:=hblk;simp only[EVK]at hnx;(have hne:=hnx))))|fail))
  (all_goals(((refine RET.eq hR ?_;((simp_all[m0,Stp.cs];done))))))
 |false=>
  have hn:=qV hb
  have hl:0<p.length:=length_pos_iff.2 hn
  have hw:IntKind.i64.wrap ((p.length:Int)-1)=((p.length-1:Nat):Int):=by rw[au (by omega) (by omega)];omega
  (repeat' (first|(with_reducible refine AI (by omega) ?_)|(with_reducible refine ab (f76 G _) ?_)|simp only[EVz,seval,↓reduceIte,EV6,EV7,hb,hw,last_row p hn]|(with_reducible intro blk hblk;(try(have hnx:=hblk;simp only[EVK]at hnx;(have hne:=hnx))))|fail))
  (all_goals(((refine RET.eq hR ?_;((simp_all[m0,Stp.cs];done))))))
theorem f127 (x:Itm):Pure G Tryz.prog 127 [.agg x.cs] (.agg (Itm.cs {iz with wh:=x.wh,unit:=x.unit})):=by
 refine Pure.w c127 λR hR=>?_
 unfold s127 r127
 (repeat' (first|simp only[EVz,seval,↓reduceIte,EV6,EV7]|(with_reducible intro blk hblk;(try(have hnx:=hblk;simp only[EVK]at hnx;(have hne:=hnx))))|fail))
 (all_goals(((refine hR _ _ (Or.inr ?_);simp[*,bz,aP,Itm.cs_eq,U.cs_eq,iz];done))))
theorem f131 (x:Itm):Pure G Tryz.prog 131 [.agg x.cs] (.agg (Itm.cs iz)):=by
 refine Pure.w c131 λR hR=>?_
 unfold s131 r131
 (repeat' (first|simp only[EVz,seval,↓reduceIte,EV6,EV7]|(with_reducible intro blk hblk;(try(have hnx:=hblk;simp only[EVK]at hnx;(have hne:=hnx))))|fail))
 (all_goals(((refine hR _ _ (Or.inr ?_);simp[*,bz,aP,Itm.cs_eq,U.cs_eq,iz];done))))
theorem f132 (x:Itm):Pure G Tryz.prog 132 [.agg x.cs] (.bool true):=by
 refine Pure.w c132 λR hR=>?_
 unfold s132 r132
 (repeat' (simp only[EVz,seval,↓reduceIte,EV6,EV7]))
 (all_goals((exact RET.eq hR rfl)))
theorem f133 (x:Itm):Pure G Tryz.prog 133 [.agg x.cs] (.agg (Itm.cs {iz with old:=x.old,new:=x.new,nth:=x.nth})):=by
 refine Pure.w c133 λR hR=>?_
 unfold s133 r133
 (repeat' (first|simp only[EVz,seval,↓reduceIte,EV6,EV7]|(with_reducible intro blk hblk;(try(have hnx:=hblk;simp only[EVK]at hnx;(have hne:=hnx))))|fail))
 (all_goals(((refine hR _ _ (Or.inr ?_);simp[*,bz,aP,Itm.cs_eq,U.cs_eq,iz];done))))
theorem f137 (x:Itm):Pure G Tryz.prog 137 [.agg x.cs] (.agg (Itm.cs {iz with old:=x.old,new:=x.new,nth:=x.nth})):=by
 refine Pure.w c137 λR hR=>?_
 unfold s137 r137
 (repeat' (first|simp only[EVz,seval,↓reduceIte,EV6,EV7]|(with_reducible intro blk hblk;(try(have hnx:=hblk;simp only[EVK]at hnx;(have hne:=hnx))))|fail))
 (all_goals(((refine hR _ _ (Or.inr ?_);simp[*,bz,aP,Itm.cs_eq,U.cs_eq,iz];done))))
theorem f139 (x:Itm):Pure G Tryz.prog 139 [.agg x.cs] (.agg (Itm.cs {iz with new:=x.new})):=by
 refine Pure.w c139 λR hR=>?_
 unfold s139 r139
 (repeat' (first|simp only[EVz,seval,↓reduceIte,EV6,EV7]|(with_reducible intro blk hblk;(try(have hnx:=hblk;simp only[EVK]at hnx;(have hne:=hnx))))|fail))
 (all_goals(((refine hR _ _ (Or.inr ?_);simp[*,bz,aP,Itm.cs_eq,U.cs_eq,iz];done))))
theorem f141 (x:Itm):Pure G Tryz.prog 141 [.agg x.cs] (.agg (Itm.cs {iz with label:=x.label})):=by
 refine Pure.w c141 λR hR=>?_
 unfold s141 r141
 (repeat' (first|simp only[EVz,seval,↓reduceIte,EV6,EV7]|(with_reducible intro blk hblk;(try(have hnx:=hblk;simp only[EVK]at hnx;(have hne:=hnx))))|fail))
 (all_goals(((refine hR _ _ (Or.inr ?_);simp[*,bz,aP,Itm.cs_eq,U.cs_eq,iz];done))))
theorem f144 (x:Itm):Pure G Tryz.prog 144 [.agg x.cs] (.agg (Itm.cs {iz with to_:=x.to_,wh:=x.wh})):=by
 refine Pure.w c144 λR hR=>?_
 unfold s144 r144
 (repeat' (first|simp only[EVz,seval,↓reduceIte,EV6,EV7]|(with_reducible intro blk hblk;(try(have hnx:=hblk;simp only[EVK]at hnx;(have hne:=hnx))))|fail))
 (all_goals(((refine hR _ _ (Or.inr ?_);simp[*,bz,aP,Itm.cs_eq,U.cs_eq,iz];done))))
theorem f146 (x:Itm):Pure G Tryz.prog 146 [.agg x.cs] (.agg (Itm.cs {iz with event:=x.event,day:=x.day})):=by
 refine Pure.w c146 λR hR=>?_
 unfold s146 r146
 (repeat' (first|simp only[EVz,seval,↓reduceIte,EV6,EV7]|(with_reducible intro blk hblk;(try(have hnx:=hblk;simp only[EVK]at hnx;(have hne:=hnx))))|fail))
 (all_goals(((refine hR _ _ (Or.inr ?_);simp[*,bz,aP,Itm.cs_eq,U.cs_eq,iz];done))))
theorem f149 (x:Itm):Pure G Tryz.prog 149 [.agg x.cs] (.agg (Itm.cs {iz with act:=x.act,item:=x.item,by_:=x.by_})):=by
 refine Pure.w c149 λR hR=>?_
 unfold s149 r149
 (repeat' (first|simp only[EVz,seval,↓reduceIte,EV6,EV7]|(with_reducible intro blk hblk;(try(have hnx:=hblk;simp only[EVK]at hnx;(have hne:=hnx))))|fail))
 (all_goals(((refine hR _ _ (Or.inr ?_);simp[*,bz,aP,Itm.cs_eq,U.cs_eq,iz];done))))
theorem f323 (x:Itm):Pure G Tryz.prog 323 [.agg x.cs] (.agg (Itm.cs {iz with act:=x.act,item:=x.item,day:=x.day})):=by
 refine Pure.w c323 λR hR=>?_
 unfold s323 r323
 (repeat' (first|simp only[EVz,seval,↓reduceIte,EV6,EV7]|(with_reducible intro blk hblk;(try(have hnx:=hblk;simp only[EVK]at hnx;(have hne:=hnx))))|fail))
 (all_goals(((refine hR _ _ (Or.inr ?_);simp[*,bz,aP,Itm.cs_eq,U.cs_eq,iz];done))))
theorem f324 (x:Itm):Pure G Tryz.prog 324 [.agg x.cs] (.bool (inR x.act 1 1048576&&inR x.item (-1) 31&&inR x.day 0 1048576)):=by
 refine Pure.w c324 λR hR=>?_
 unfold s324 r324
 (repeat' (first|(with_reducible (refine ag (λh=>?_) (λh=>?_))<;>(try simp only[Da,Db,Dc,Dw,De,Df,Dg,Dh]at h))|(with_reducible first|refine ab (f151 G _ _) ?_|refine ab (f148 G _ _ _) ?_)|simp only[EVz,seval,↓reduceIte,EV6,EV7]|fail))
 (all_goals(((refine RET.eq hR ?_;((simp_all[];done))))))
end
def okCh (c:UInt8):Bool:=decide ((33:Int)<=c.toNat)&&decide ((c.toNat:Int)<=126)
def bQ (s:List UInt8):Bool:=decide ((1:Int)<=s.length)&&(decide ((s.length:Int)<=24)&&s.all okCh)
section
variable (G:Glob)
theorem f95 (s:List UInt8):Pure G Tryz.prog 95 [.str s] (.bool (bQ s)):=by
 refine Pure.w c95 λR hR=>?_
 unfold s95 r95
 (repeat' (first|(with_reducible (first|refine ae (λh=>?_) (λh=>?_)|refine ag (λh=>?_) (λh=>?_))<;>(try simp only[Da,Db,Dc,Dw,De,Df,Dg,Dh]at h))|simp only[EVz,seval,↓reduceIte,EV6,EV7,hx.yes,hx.le0,hx.lt',hx.get,hx.row,hw]|simp only[EVz,seval,↓reduceIte,EV6,EV7,hn]|simp only[EVz,seval,↓reduceIte,EV6,EV7]|(refine af hx () ?_ (Weak.rfl' _ _))|(refine Zq (s) (λi r (c:Unit)=>s.all okCh=r.all okCh) (λi c=>[(0,.str s),(3,.int .i64 i)]) (λ_ _=>[]) () (by rfl) (Weak.rfl' _ _) (by omega) (λi x r c hok hx hw=>?_) (λc hok hn=>?_))|fail))
 (all_goals(first|(refine RET.eq hR ?_;(refine congrArg AV.bool (Bool.eq_iff_iff.2 ?_);simp only[bQ,okCh,EVB]at*;omega))|(refine RET.eq hR ?_;first|(simp_all[bQ,okCh];done)|(simp_all[bQ,okCh];omega))|(simp_all[bQ,okCh];done)))
end
theorem cr {α:Type} [DecidableEq α] {a b:List α} {i:Nat} {x:α} {r:List α} (hok:a.length=b.length/\decide (a=b)=decide (x::r=b.drop i)) (hx:Rest a i x r):
  ∃y r',Rest b i y r'/\b.drop (i+1)=r'/\decide (a=b)=decide (x::r=y::r'):=by
 have h1:=hx.lt
 cases hd:b.drop i with
 |nil=>
  have:=congrArg List.length hd
  simp at this
  omega
 |cons y r'=>exact⟨y,r',ii hd,(ii hd).next,by rw[hok.2,hd]⟩
section
variable (G:Glob)
theorem f48 (a b:List (List UInt8)) (ha:a.length<9000000000000000000):Pure G Tryz.prog 48 [.lst 1 (a.map srow),.lst 1 (b.map srow)] (.bool (decide (a=b))):=by
 refine Pure.w c48 λR hR=>?_
 unfold s48 r48
 by_cases hl:a.length=b.length
 ·have e0:decide ((a.length:Int)≠(b.length:Int))=false:=by simp[hl]
  (repeat' (first|(with_reducible (refine ae (λh=>?_) (λh=>?_))<;>(try simp only[Da,Db,Dc,Dw,De,Df,Dg,Dh]at h))|(with_reducible refine AI (by omega) ?_)|simp only[EVz,seval,↓reduceIte,EV6,EV7,e0,hx.yes,hx.le0,hx.lt',hx.get,hx.row,hw,hy.row,hy.lt']|simp only[EVz,seval,↓reduceIte,EV6,EV7,e0,hn]|simp only[EVz,seval,↓reduceIte,EV6,EV7,e0]|(refine af hx () ?_ (Weak.rfl' _ _))|(refine Zq (a) (λi r (c:Unit)=>a.length=b.length/\decide (a=b)=decide (r=b.drop i)) (λi c=>[(0,.lst 1 (a.map srow)),(1,.lst 1 (b.map srow)),(5,.int .i64 i)]) (λ_ _=>[]) () (by((simp[*];done))) (Weak.rfl' _ _) (by omega) (λi x r c hok hx hw=>?_) (λc hok hn=>?_)<;>(try(obtain⟨y,r2,hy,hyn,hok⟩:=cr hok hx;skip)))|fail))
  (all_goals(first|(refine RET.eq hR ?_;((simp_all[hl];done)))|(simp_all[hl];done)))
 ·have e0:decide ((a.length:Int)≠(b.length:Int))=true:=by simp;omega
  have e1:decide (a=b)=false:=by simp;rintro rfl;exact hl rfl
  rw[e1]at hR
  (repeat' (simp only[EVz,seval,↓reduceIte,EV6,EV7,e0]))
  (all_goals((exact RET.eq hR rfl)))
theorem f47 (a b:List Stp) (ha:a.length<9000000000000000000):Pure G Tryz.prog 47 [.lst 2 (a.map Stp.cs),.lst 2 (b.map Stp.cs)] (.bool (decide (a=b))):=by
 refine Pure.w c47 λR hR=>?_
 unfold s47 r47
 by_cases hl:a.length=b.length
 ·have e0:decide ((a.length:Int)≠(b.length:Int))=false:=by simp[hl]
  (repeat' (first|(with_reducible (refine ae (λh=>?_) (λh=>?_))<;>(try simp only[Da,Db,Dc,Dw,De,Df,Dg,Dh]at h))|(with_reducible refine AI (by omega) ?_)|simp only[EVz,seval,↓reduceIte,EV6,EV7,e0,hx.yes,hx.le0,hx.lt',hx.get,hx.row,hw,hy.row,hy.lt']|simp only[EVz,seval,↓reduceIte,EV6,EV7,e0,hn]|simp only[EVz,seval,↓reduceIte,EV6,EV7,e0]|(refine af hx () ?_ (Weak.rfl' _ _))|(refine Zq (a) (λi r (c:Unit)=>a.length=b.length/\decide (a=b)=decide (r=b.drop i)) (λi c=>[(0,.lst 2 (a.map Stp.cs)),(1,.lst 2 (b.map Stp.cs)),(5,.int .i64 i)]) (λ_ _=>[]) () (by((simp[*];done))) (Weak.rfl' _ _) (by omega) (λi x r c hok hx hw=>?_) (λc hok hn=>?_)<;>(try(obtain⟨y,r2,hy,hyn,hok⟩:=cr hok hx;(cases x;cases y))))|fail))
  (all_goals(first|(refine RET.eq hR ?_;first|(simp_all[hl];done)|grind)|(simp_all[hl];done)))
 ·have e0:decide ((a.length:Int)≠(b.length:Int))=true:=by simp;omega
  have e1:decide (a=b)=false:=by simp;rintro rfl;exact hl rfl
  rw[e1]at hR
  (repeat' (simp only[EVz,seval,↓reduceIte,EV6,EV7,e0]))
  (all_goals((exact RET.eq hR rfl)))
theorem f39 (a b:List Wd) (ha:a.length<9000000000000000000):Pure G Tryz.prog 39 [.lst 4 (a.map Wd.cs),.lst 4 (b.map Wd.cs)] (.bool (decide (a=b))):=by
 refine Pure.w c39 λR hR=>?_
 unfold s39 r39
 by_cases hl:a.length=b.length
 ·have e0:decide ((a.length:Int)≠(b.length:Int))=false:=by simp[hl]
  (repeat' (first|(with_reducible (refine ae (λh=>?_) (λh=>?_))<;>(try simp only[Da,Db,Dc,Dw,De,Df,Dg,Dh]at h))|(with_reducible refine AI (by omega) ?_)|simp only[EVz,seval,↓reduceIte,EV6,EV7,e0,hx.yes,hx.le0,hx.lt',hx.get,hx.row,hw,hy.row,hy.lt']|simp only[EVz,seval,↓reduceIte,EV6,EV7,e0,hn]|simp only[EVz,seval,↓reduceIte,EV6,EV7,e0]|(refine af hx () ?_ (Weak.rfl' _ _))|(refine Zq (a) (λi r (c:Unit)=>a.length=b.length/\decide (a=b)=decide (r=b.drop i)) (λi c=>[(0,.lst 4 (a.map Wd.cs)),(1,.lst 4 (b.map Wd.cs)),(5,.int .i64 i)]) (λ_ _=>[]) () (by((simp[*];done))) (Weak.rfl' _ _) (by omega) (λi x r c hok hx hw=>?_) (λc hok hn=>?_)<;>(try(obtain⟨y,r2,hy,hyn,hok⟩:=cr hok hx;(cases x;cases y))))|fail))
  (all_goals(first|(refine RET.eq hR ?_;first|(simp_all[hl];done)|grind)|(simp_all[hl];done)))
 ·have e0:decide ((a.length:Int)≠(b.length:Int))=true:=by simp;omega
  have e1:decide (a=b)=false:=by simp;rintro rfl;exact hl rfl
  rw[e1]at hR
  (repeat' (simp only[EVz,seval,↓reduceIte,EV6,EV7,e0]))
  (all_goals((exact RET.eq hR rfl)))
theorem f101 (a b:List (List UInt8)) (ha:a.length<9000000000000000000):Pure G Tryz.prog 101 [.lst 1 (a.map srow),.lst 1 (b.map srow)] (.bool (decide (a=b))):=by
 refine Pure.w c101 λR hR=>?_
 unfold s101 r101
 by_cases hl:a.length=b.length
 ·have e0:decide ((a.length:Int)≠(b.length:Int))=false:=by simp[hl]
  (repeat' (first|(with_reducible (refine ae (λh=>?_) (λh=>?_))<;>(try simp only[Da,Db,Dc,Dw,De,Df,Dg,Dh]at h))|(with_reducible refine AI (by omega) ?_)|simp only[EVz,seval,↓reduceIte,EV6,EV7,e0,hx.yes,hx.le0,hx.lt',hx.get,hx.row,hw,hy.row,hy.lt']|simp only[EVz,seval,↓reduceIte,EV6,EV7,e0,hn]|simp only[EVz,seval,↓reduceIte,EV6,EV7,e0]|(refine af hx () ?_ (Weak.rfl' _ _))|(refine Zq (a) (λi r (c:Unit)=>a.length=b.length/\decide (a=b)=decide (r=b.drop i)) (λi c=>[(0,.lst 1 (a.map srow)),(1,.lst 1 (b.map srow)),(12,.int .i64 a.length),(13,.int .i64 i)]) (λ_ _=>[]) () (by((simp[*];done))) (Weak.rfl' _ _) (by omega) (λi x r c hok hx hw=>?_) (λc hok hn=>?_)<;>(try(obtain⟨y,r2,hy,hyn,hok⟩:=cr hok hx;skip)))|fail))
  (all_goals(first|(refine RET.eq hR ?_;((simp_all[hl];done)))|(simp_all[hl];done)))
 ·have e0:decide ((a.length:Int)≠(b.length:Int))=true:=by simp;omega
  have e1:decide (a=b)=false:=by simp;rintro rfl;exact hl rfl
  rw[e1]at hR
  (repeat' (simp only[EVz,seval,↓reduceIte,EV6,EV7,e0]))
  (all_goals((exact RET.eq hR rfl)))
theorem f83 (a b:List Stp) (ha:a.length<9000000000000000000):Pure G Tryz.prog 83 [.lst 2 (a.map Stp.cs),.lst 2 (b.map Stp.cs)] (.bool (decide (a=b))):=by
 refine Pure.w c83 λR hR=>?_
 unfold s83 r83
 by_cases hl:a.length=b.length
 ·have e0:decide ((a.length:Int)≠(b.length:Int))=false:=by simp[hl]
  (repeat' (first|(with_reducible (refine ae (λh=>?_) (λh=>?_))<;>(try simp only[Da,Db,Dc,Dw,De,Df,Dg,Dh]at h))|(with_reducible refine AI (by omega) ?_)|simp only[EVz,seval,↓reduceIte,EV6,EV7,e0,hx.yes,hx.le0,hx.lt',hx.get,hx.row,hw,hy.row,hy.lt']|simp only[EVz,seval,↓reduceIte,EV6,EV7,e0,hn]|simp only[EVz,seval,↓reduceIte,EV6,EV7,e0]|(refine af hx () ?_ (Weak.rfl' _ _))|(refine Zq (a) (λi r (c:Unit)=>a.length=b.length/\decide (a=b)=decide (r=b.drop i)) (λi c=>[(0,.lst 2 (a.map Stp.cs)),(1,.lst 2 (b.map Stp.cs)),(12,.int .i64 a.length),(13,.int .i64 i)]) (λ_ _=>[]) () (by((simp[*];done))) (Weak.rfl' _ _) (by omega) (λi x r c hok hx hw=>?_) (λc hok hn=>?_)<;>(try(obtain⟨y,r2,hy,hyn,hok⟩:=cr hok hx;(cases x;cases y))))|fail))
  (all_goals(first|(refine RET.eq hR ?_;first|(simp_all[hl];done)|grind)|(simp_all[hl];done)))
 ·have e0:decide ((a.length:Int)≠(b.length:Int))=true:=by simp;omega
  have e1:decide (a=b)=false:=by simp;rintro rfl;exact hl rfl
  rw[e1]at hR
  (repeat' (simp only[EVz,seval,↓reduceIte,EV6,EV7,e0]))
  (all_goals((exact RET.eq hR rfl)))
theorem f165 (a b:List Wd) (ha:a.length<9000000000000000000):Pure G Tryz.prog 165 [.lst 4 (a.map Wd.cs),.lst 4 (b.map Wd.cs)] (.bool (decide (a=b))):=by
 refine Pure.w c165 λR hR=>?_
 unfold s165 r165
 by_cases hl:a.length=b.length
 ·have e0:decide ((a.length:Int)≠(b.length:Int))=false:=by simp[hl]
  (repeat' (first|(with_reducible (refine ae (λh=>?_) (λh=>?_))<;>(try simp only[Da,Db,Dc,Dw,De,Df,Dg,Dh]at h))|(with_reducible refine AI (by omega) ?_)|simp only[EVz,seval,↓reduceIte,EV6,EV7,e0,hx.yes,hx.le0,hx.lt',hx.get,hx.row,hw,hy.row,hy.lt']|simp only[EVz,seval,↓reduceIte,EV6,EV7,e0,hn]|simp only[EVz,seval,↓reduceIte,EV6,EV7,e0]|(refine af hx () ?_ (Weak.rfl' _ _))|(refine Zq (a) (λi r (c:Unit)=>a.length=b.length/\decide (a=b)=decide (r=b.drop i)) (λi c=>[(0,.lst 4 (a.map Wd.cs)),(1,.lst 4 (b.map Wd.cs)),(12,.int .i64 a.length),(13,.int .i64 i)]) (λ_ _=>[]) () (by((simp[*];done))) (Weak.rfl' _ _) (by omega) (λi x r c hok hx hw=>?_) (λc hok hn=>?_)<;>(try(obtain⟨y,r2,hy,hyn,hok⟩:=cr hok hx;(cases x;cases y))))|fail))
  (all_goals(first|(refine RET.eq hR ?_;first|(simp_all[hl];done)|grind)|(simp_all[hl];done)))
 ·have e0:decide ((a.length:Int)≠(b.length:Int))=true:=by simp;omega
  have e1:decide (a=b)=false:=by simp;rintro rfl;exact hl rfl
  rw[e1]at hR
  (repeat' (simp only[EVz,seval,↓reduceIte,EV6,EV7,e0]))
  (all_goals((exact RET.eq hR rfl)))
end
def idxF {α:Type} (p:α->Bool):Nat->List α->Int
 |_,[]=>-1
 |i,x::r=>if p x then (i:Int)else idxF p (i+1) r
theorem eE {α:Type} (p:α->Bool):∀(l:List α) (i:Nat),decide (0<=idxF p i l)=l.any p
 |[],i=>rfl
 |x::r,i=>by
  unfold idxF
  cases h:p x with
  |true=>simp[h]
  |false=>simp[h];simpa using eE p r (i+1)
def dU (l:List (List UInt8)):Bool:=decide ((l.length:Int)<=256)&&l.all bQ
def irow (n:Int):List AV:=[.int .i64 n]
theorem nq (n:Int):irow n=[.int .i64 n]:=(rfl)
def brow (c:UInt8):List AV:=[.int .u8 c.toNat]
theorem lN (l:List UInt8):ey l=l.map brow:=rfl
theorem mM (c:UInt8):brow c=[.int .u8 c.toNat]:=(rfl)
theorem ib {α:Type} (p:α->Bool) (l:List α):(!l.any λx=>!p x)=l.all p:=by
 induction l with
 |nil=>rfl
 |cons x r ih=>simp[←ih]
section
variable (G:Glob)
theorem f240 (c:UInt8):Pure G Tryz.prog 240 [.int .u8 c.toNat] (.bool (!okCh c)):=by
 refine Pure.w c240 λR hR=>?_
 unfold s240 r240
 (repeat' (first|(with_reducible (refine ag (λh=>?_) (λh=>?_))<;>(try simp only[Da,Db,Dc,Dw,De,Df,Dg,Dh]at h))|simp only[EVz,seval,↓reduceIte,EV6,EV7]|fail))
 (all_goals(((refine RET.eq hR ?_;(refine congrArg AV.bool (Bool.eq_iff_iff.2 ?_);simp only[okCh,EVB]at*;omega)))))
theorem f268 (f:Value) (p:UInt8->Bool) (l:List UInt8) (hl:l.length<9000000000000000000) (hf:∀x∈l,fL G Tryz.prog f [.int .u8 x.toNat] (.bool (p x))):Pure G Tryz.prog 268 [.lst 1 (l.map brow),.sc f] (.int .i64 (idxF p 0 l)):=by
 refine Pure.w c268 λR hR=>?_
 unfold s268 r268
 (repeat' (first|(with_reducible (refine ae (λh=>?_) (λh=>?_))<;>(try simp only[Da,Db,Dc,Dw,De,Df,Dg,Dh]at h))|simp only[EVz,seval,↓reduceIte,EV6,EV7,mM,hx.yes,hx.le0,hx.lt',hx.get,hx.row,hw]|simp only[EVz,seval,↓reduceIte,EV6,EV7,mM,hn]|simp only[EVz,seval,↓reduceIte,EV6,EV7,mM]|(refine af hx () ?_ (Weak.rfl' _ _))|(refine Zq (l) (λi r (c:Unit)=>idxF p 0 l=idxF p i r) (λi c=>[(0,.lst 1 (l.map brow)),(1,.sc f),(7,.int .i64 l.length),(8,.int .i64 i)]) (λ_ _=>[]) () (by rfl) (Weak.rfl' _ _) (by omega) (λi x r c hok hx hw=>?_) (λc hok hn=>?_))|(refine aK (hf _ hx.mem) ?_)|fail))
 (all_goals(first|(refine RET.eq hR ?_;first|(simp only[idxF,hok,EVC,decide_true,decide_false];done)|(simp_all[idxF];done))|(simp_all[idxF];done)))
theorem f241 (f:Value) (p:UInt8->Bool) (l:List UInt8) (hl:l.length<9000000000000000000) (hf:∀x∈l,fL G Tryz.prog f [.int .u8 x.toNat] (.bool (p x))):Pure G Tryz.prog 241 [.lst 1 (l.map brow),.sc f] (.bool (l.any p)):=by
 refine Pure.w c241 λR hR=>?_
 unfold s241 r241
 (repeat' (first|(with_reducible refine ab (f268 G f p l hl hf) ?_)|simp only[EVz,seval,↓reduceIte,EV6,EV7]|fail))
 (all_goals(((refine RET.eq hR ?_;((simp_all[eE];done))))))
theorem f239 (f:Value) (p:List UInt8->Bool) (l:List (List UInt8)) (hl:l.length<9000000000000000000) (hf:∀x∈l,fL G Tryz.prog f [.str x] (.bool (p x))):Pure G Tryz.prog 239 [.lst 1 (l.map srow),.sc f] (.int .i64 (idxF p 0 l)):=by
 refine Pure.w c239 λR hR=>?_
 unfold s239 r239
 (repeat' (first|(with_reducible (refine ae (λh=>?_) (λh=>?_))<;>(try simp only[Da,Db,Dc,Dw,De,Df,Dg,Dh]at h))|simp only[EVz,seval,↓reduceIte,EV6,EV7,hx.yes,hx.le0,hx.lt',hx.get,hx.row,hw]|simp only[EVz,seval,↓reduceIte,EV6,EV7,hn]|simp only[EVz,seval,↓reduceIte,EV6,EV7]|(refine af hx () ?_ (Weak.rfl' _ _))|(refine Zq (l) (λi r (c:Unit)=>idxF p 0 l=idxF p i r) (λi c=>[(0,.lst 1 (l.map srow)),(1,.sc f),(7,.int .i64 l.length),(8,.int .i64 i)]) (λ_ _=>[]) () (by rfl) (Weak.rfl' _ _) (by omega) (λi x r c hok hx hw=>?_) (λc hok hn=>?_))|(refine aK (hf _ hx.mem) ?_)|fail))
 (all_goals(first|(refine RET.eq hR ?_;first|(simp only[idxF,hok,EVC,decide_true,decide_false];done)|(simp_all[idxF];done))|(simp_all[idxF];done)))
theorem f212 (f:Value) (p:List UInt8->Bool) (l:List (List UInt8)) (hl:l.length<9000000000000000000) (hf:∀x∈l,fL G Tryz.prog f [.str x] (.bool (p x))):Pure G Tryz.prog 212 [.lst 1 (l.map srow),.sc f] (.bool (l.any p)):=by
 refine Pure.w c212 λR hR=>?_
 unfold s212 r212
 (repeat' (first|(with_reducible refine ab (f239 G f p l hl hf) ?_)|simp only[EVz,seval,↓reduceIte,EV6,EV7]|fail))
 (all_goals(((refine RET.eq hR ?_;((simp_all[eE];done))))))
theorem f261 (f:Value) (p:Wd->Bool) (l:List Wd) (hl:l.length<9000000000000000000) (hf:∀x∈l,fL G Tryz.prog f [.agg x.cs] (.bool (p x))):Pure G Tryz.prog 261 [.lst 4 (l.map Wd.cs),.sc f] (.int .i64 (idxF p 0 l)):=by
 refine Pure.w c261 λR hR=>?_
 unfold s261 r261
 (repeat' (first|(with_reducible (refine ae (λh=>?_) (λh=>?_))<;>(try simp only[Da,Db,Dc,Dw,De,Df,Dg,Dh]at h))|simp only[EVz,seval,↓reduceIte,EV6,EV7,hx.yes,hx.le0,hx.lt',hx.get,hx.row,hw]|simp only[EVz,seval,↓reduceIte,EV6,EV7,hn]|simp only[EVz,seval,↓reduceIte,EV6,EV7]|(refine af hx () ?_ (Weak.rfl' _ _))|(refine Zq (l) (λi r (c:Unit)=>idxF p 0 l=idxF p i r) (λi c=>[(0,.lst 4 (l.map Wd.cs)),(1,.sc f),(7,.int .i64 l.length),(8,.int .i64 i)]) (λ_ _=>[]) () (by rfl) (Weak.rfl' _ _) (by omega) (λi x r c hok hx hw=>?_) (λc hok hn=>?_))|(refine aK (hf _ hx.mem) ?_)|fail))
 (all_goals(first|(refine RET.eq hR ?_;first|(simp only[idxF,hok,EVC,decide_true,decide_false];done)|(simp_all[idxF];done))|(simp_all[idxF];done)))
theorem f229 (f:Value) (p:Wd->Bool) (l:List Wd) (hl:l.length<9000000000000000000) (hf:∀x∈l,fL G Tryz.prog f [.agg x.cs] (.bool (p x))):Pure G Tryz.prog 229 [.lst 4 (l.map Wd.cs),.sc f] (.bool (l.any p)):=by
 refine Pure.w c229 λR hR=>?_
 unfold s229 r229
 (repeat' (first|(with_reducible refine ab (f261 G f p l hl hf) ?_)|simp only[EVz,seval,↓reduceIte,EV6,EV7]|fail))
 (all_goals(((refine RET.eq hR ?_;((simp_all[eE];done))))))
theorem f206 (l:List Int) (k:Int) (hl:l.length<9000000000000000000):Pure G Tryz.prog 206 [.lst 1 (l.map irow),.int .i64 k] (.int .i64 (idxF (λx=>decide (k=x)) 0 l)):=by
 refine Pure.w c206 λR hR=>?_
 unfold s206 r206
 (repeat' (first|(with_reducible (refine ae (λh=>?_) (λh=>?_))<;>(try simp only[Da,Db,Dc,Dw,De,Df,Dg,Dh]at h))|simp only[EVz,seval,↓reduceIte,EV6,EV7,nq,hx.yes,hx.le0,hx.lt',hx.get,hx.row,hw]|simp only[EVz,seval,↓reduceIte,EV6,EV7,nq,hn]|simp only[EVz,seval,↓reduceIte,EV6,EV7,nq]|(refine af hx () ?_ (Weak.rfl' _ _))|(refine Zq (l) (λi r (c:Unit)=>idxF (λx=>decide (k=x)) 0 l=idxF (λx=>decide (k=x)) i r) (λi c=>[(0,.lst 1 (l.map irow)),(1,.int .i64 k),(7,.int .i64 l.length),(8,.int .i64 i)]) (λ_ _=>[]) () (by rfl) (Weak.rfl' _ _) (by omega) (λi x r c hok hx hw=>?_) (λc hok hn=>?_))|fail))
 (all_goals(first|(refine RET.eq hR ?_;first|(simp only[idxF,hok,EVC,decide_true,decide_false];done)|(simp_all[idxF];done))|(simp_all[idxF];done)))
theorem f156 (l:List Int) (k:Int) (hl:l.length<9000000000000000000):Pure G Tryz.prog 156 [.lst 1 (l.map irow),.int .i64 k] (.bool (l.any λx=>decide (k=x))):=by
 refine Pure.w c156 λR hR=>?_
 unfold s156 r156
 (repeat' (first|(with_reducible refine ab (f206 G l k hl) ?_)|simp only[EVz,seval,↓reduceIte,EV6,EV7]|fail))
 (all_goals(((refine RET.eq hR ?_;((simp_all[eE];done))))))
theorem f214 (s:List UInt8):Pure G Tryz.prog 214 [.str s] (.bool (bQ s)):=by
 refine Pure.w c214 λR hR=>?_
 unfold s214 r214
 (repeat' (first|(with_reducible (refine ag (λh=>?_) (λh=>?_))<;>(try simp only[Da,Db,Dc,Dw,De,Df,Dg,Dh]at h))|(with_reducible refine ab (f241 G _ (λc=>!okCh c) s (by omega) (λx _=>(f240 G x).v)) ?_)|simp only[EVz,seval,↓reduceIte,EV6,EV7,lN,ib]|(refine mX (l:=s) (elem:=5) rfl (by omega) (by kernel_rfl) (by kernel_rfl) (by kernel_rfl) ?_)|fail))
 all_goals(try have h1:(1:Int)<=s.length:=by have:0<s.length:=length_pos_iff.2 (by assumption);omega)
 (all_goals(first|(refine RET.eq hR ?_;(refine congrArg AV.bool (Bool.eq_iff_iff.2 ?_);simp only[bQ,ib,EVB]at*;omega))|(refine RET.eq hR ?_;((simp_all[bQ,ib];done)))))
end
end Go.Av
