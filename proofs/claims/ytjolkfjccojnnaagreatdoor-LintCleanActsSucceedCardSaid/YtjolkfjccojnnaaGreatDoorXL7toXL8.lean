/-
  scratch: rows of words.
-/
import Derived.Test.YtjolkfjccojnnaaGreatDoorXL2toXL6
namespace Go.Av
open Go Go.RowKit Go.Proofs List
set_option linter.unusedSimpArgs false
set_option linter.unusedVariables false
theorem mo {e:TypeId} {sz bytes:Nat} {σ:Store} {g:Option Nat} {rows ys:List (List AV)} {K:AV->Store->Prop} (κ:Store) (hg:∀b,g=some b->σ.get b=some (.tok e (rows.length*sz))) (hb:Fits (rows.length+ys.length) bytes)
  (hκ:SubN κ (σ.erase g)) (hk:∀g',(∀b,g'=some b->b∉κ.keys)->K (.own g' e sz (rows++ys)) (κ++tokS g' e ((rows++ys).length*sz))):appX e sz bytes σ g rows ys K:=by
 refine⟨hg,hb,λg' _ hg'=>⟨κ++tokS g' e ((rows++ys).length*sz),⟨?_,?_⟩,hk g' (λb hb hm=>hg' b hb (cM hκ.1 hm))⟩⟩
 ·intro p hp
  rcases mem_append.1 hp with hp|hp
  ·exact mem_append.2 (.inr (hκ.1 p hp))
  ·exact mem_append.2 (.inl hp)
 ·intro hn
  rw[aA]at hn ⊢
  obtain⟨n1,n2,n3⟩:=nodup_append.1 hn
  exact nodup_append.2 ⟨hκ.2 n2,n1,λx hx y hy e=>n3 y hy x (cM hκ.1 hx) e.symm⟩
theorem fR {e:TypeId} {sz bytes:Nat} {σ:Store} {g:Option Nat} {rows ys:List (List AV)} {K:AV->Store->Prop} (κ:Store) (hg:∀b,g=some b->σ.get b=some (.tok e (rows.length*sz))) (hb:(rows.length+ys.length)*bytes<=140737488355328)
  (hκ:SubN κ (σ.erase g)) (hk:∀g',(∀b,g'=some b->b∉κ.keys)->K (.own g' e sz (rows++ys)) (κ++tokS g' e ((rows++ys).length*sz))):appX e sz bytes σ g rows ys K:=mo κ hg (.inl hb) hκ hk
theorem cV {e:TypeId} {sz bytes n m m':Nat} {τ:Store} {g:Option Nat} {rows:List (List AV)} {cs:List AV} {K:AV->Store->Prop} {b k1:Nat} (hτ:∀d,g=some d->τ.get d=some (.tok e m)) (hr:rows.length=n) (hm:m=n*sz) (hm':m'=(n+1)*sz) (hl:cs.length=sz)
  (hb:b∉τ.keys) (hn:(n+1)*bytes<=140737488355328) (hk:∀g',K (.own g' e sz (rows++[cs])) (tokS g' e m')):
  ∃rs:List (List AV),rs.length=1/\(∀r∈rs,r.length=sz)/\rs.flatten=cs/\appX e sz bytes ((b,.tok e k1)::τ) g rows rs K:=by
 subst hm hm' hr
 refine⟨[cs],rfl,by simpa using hl,by simp,fR [] (λd hd=>?_) (by simpa using hn) (SubN.nil _) (λg' _=>by simpa using hk g')⟩
 have h1:=hτ d hd
 have:¬b=d:=by
  rintro rfl
  exact hb (mem_map.2 ⟨_,Store.get_mem h1,rfl⟩)
 simp only[Store.get,if_neg this]
 exact h1
theorem Weak.sub {G:Glob} {env:Env} {σ σ':Store} (hs:SubN σ' σ):Weak G env σ env σ':=λρ w tmps hS hE=>⟨hS.subN hs,Ev.of_sub hs.1 w,λj=>Rep.ev (Ev.of_sub hs.1 w) _ _ (hE j)⟩
theorem bI {g:Option Nat} {e:TypeId} {k:Nat}:∀d,g=some d->(tokS g e k).get d=some (.tok e k):=by
 rintro d rfl;simp[tokS,Store.get]
theorem bT {g:Option Nat} {e:TypeId} {k c:Nat} {y:AObj} (hc:c∉(tokS g e k).keys):∀d,g=some d->Store.get ((c,y)::tokS g e k) d=some (.tok e k):=by
 rintro d rfl
 have:¬c=d:=by rintro rfl;exact hc (by simp[tokS,Store.keys])
 simp[tokS,Store.get,this]
theorem qO {g:Option Nat} {e:TypeId} {k c c2:Nat} {y y2:AObj} (hc:c∉(tokS g e k).keys) (hc2:c2∉Store.keys ((c,y)::tokS g e k)):∀d,g=some d->Store.get ((c2,y2)::(c,y)::tokS g e k) d=some (.tok e k):=by
 rintro d rfl
 have h1:¬c=d:=by rintro rfl;exact hc (by simp[tokS,Store.keys])
 have h2:¬c2=d:=by rintro rfl;exact hc2 (by simp[tokS,Store.keys])
 simp[tokS,Store.get,h1,h2]
section
variable (G:Glob)
theorem f230 (s:List UInt8):Pure G Tryz.prog 230 [.str s] (.bool (!bQ s)):=by
 refine Pure.w c230 λR hR=>?_
 unfold s230 r230
 (repeat' (first|(with_reducible refine ab (f214 G _) ?_)|simp only[EVz,seval,↓reduceIte,EV6,EV7]|fail))
 (all_goals((exact RET.eq hR rfl)))
theorem f192 (l:List (List UInt8)) (hl:l.length<9000000000000000000):Pure G Tryz.prog 192 [.lst 1 (l.map srow)] (.bool (dU l)):=by
 refine Pure.w c192 λR hR=>?_
 unfold s192 r192
 (repeat' (first|(with_reducible (refine ag (λh=>?_) (λh=>?_))<;>(try simp only[Da,Db,Dc,Dw,De,Df,Dg,Dh]at h))|(with_reducible refine ab (f212 G _ (λc=>!bQ c) l hl (λx _=>(f230 G x).v)) ?_)|simp only[EVz,seval,↓reduceIte,EV6,EV7,ib]|fail))
 (all_goals(first|(refine RET.eq hR ?_;(refine congrArg AV.bool (Bool.eq_iff_iff.2 ?_);simp only[dU,ib,EVB]at*;omega))|(refine RET.eq hR ?_;((simp_all[dU,ib];done)))))
theorem f53 (l:List (List UInt8)) (hl:l.length<9000000000000000000):Pure G Tryz.prog 53 [.lst 1 (l.map srow)] (.bool (dU l)):=by
 refine Pure.w c53 λR hR=>?_
 unfold s53 r53
 (repeat' (first|(with_reducible (refine ae (λh=>?_) (λh=>?_))<;>(try simp only[Da,Db,Dc,Dw,De,Df,Dg,Dh]at h))|(with_reducible refine ab (f95 G _) ?_)|simp only[EVz,seval,↓reduceIte,EV6,EV7,hx.yes,hx.le0,hx.lt',hx.get,hx.row,hw]|simp only[EVz,seval,↓reduceIte,EV6,EV7,hn]|simp only[EVz,seval,↓reduceIte,EV6,EV7]|(refine af hx () ?_ (Weak.rfl' _ _))|(refine Zq (l) (λi r (c:Unit)=>l.all bQ=r.all bQ) (λi c=>[(0,.lst 1 (l.map srow)),(3,.int .i64 i)]) (λ_ _=>[]) () (by rfl) (Weak.rfl' _ _) (by omega) (λi x r c hok hx hw=>?_) (λc hok hn=>?_))|fail))
 (all_goals(first|(refine RET.eq hR ?_;(refine congrArg AV.bool (Bool.eq_iff_iff.2 ?_);simp only[dU,EVB]at*;omega))|(refine RET.eq hR ?_;((simp only[dU,hok,h,EVC,decide_true,decide_false];done)))|(rw[hok];simp only[dU,h,EVC,decide_true,decide_false];done)))
theorem f237 (s:List UInt8) (hs:s.length<9000000000000000000):Pure G Tryz.prog 237 [.str s] (.bool (bQ s)):=by
 refine Pure.w c237 λR hR=>?_
 unfold s237 r237
 (repeat' (first|(with_reducible (first|refine ae (λh=>?_) (λh=>?_)|refine ag (λh=>?_) (λh=>?_))<;>(try simp only[Da,Db,Dc,Dw,De,Df,Dg,Dh]at h))|simp only[EVz,seval,↓reduceIte,EV6,EV7,hx.yes,hx.le0,hx.lt',hx.get,hx.row,hw]|simp only[EVz,seval,↓reduceIte,EV6,EV7,hn]|simp only[EVz,seval,↓reduceIte,EV6,EV7]|(refine af hx () ?_ (Weak.rfl' _ _))|(refine Zq (s) (λi r (c:Unit)=>s.all okCh=r.all okCh) (λi c=>[(0,.str s),(3,.int .i64 i)]) (λ_ _=>[]) () (by rfl) (Weak.rfl' _ _) (by omega) (λi x r c hok hx hw=>?_) (λc hok hn=>?_))|fail))
 (all_goals(first|(refine RET.eq hR ?_;(refine congrArg AV.bool (Bool.eq_iff_iff.2 ?_);simp only[bQ,okCh,EVB]at*;omega))|(refine RET.eq hR ?_;first|(simp only[bQ,okCh,hok,h,EVC,decide_true,decide_false];done)|(simp_all[bQ,okCh];omega))|(simp_all[bQ,okCh];done)))
theorem f30 (l:List (List UInt8)) (n:Int) (hl:l.length<9000000000000000000):Pure G Tryz.prog 30 [.lst 1 (l.map srow),.int .i64 n] (.bool (dU l&&decide (n<=(l.length:Int)))):=by
 refine Pure.w c30 λR hR=>?_
 unfold s30 r30
 (repeat' (first|(with_reducible (refine ag (λh=>?_) (λh=>?_))<;>(try simp only[Da,Db,Dc,Dw,De,Df,Dg,Dh]at h))|(with_reducible refine ab (f53 G _ hl) ?_)|simp only[EVz,seval,↓reduceIte,EV6,EV7]|fail))
 (all_goals(((refine RET.eq hR ?_;((simp_all[];done))))))
theorem f135 (l:List (List UInt8)) (n:Int) (hl:l.length<9000000000000000000):Pure G Tryz.prog 135 [.lst 1 (l.map srow),.int .i64 n] (.bool (dU l&&decide (n<=(l.length:Int)))):=by
 refine Pure.w c135 λR hR=>?_
 unfold s135 r135
 (repeat' (first|(with_reducible (refine ag (λh=>?_) (λh=>?_))<;>(try simp only[Da,Db,Dc,Dw,De,Df,Dg,Dh]at h))|(with_reducible refine ab (f192 G _ hl) ?_)|simp only[EVz,seval,↓reduceIte,EV6,EV7]|fail))
 (all_goals(((refine RET.eq hR ?_;((simp_all[];done))))))
def wdOk (w:Wd):Bool:=bQ w.text
def aS (l:List Wd):Bool:=decide ((l.length:Int)<=256)&&l.all wdOk
theorem f236 (l:List Wd) (hl:l.length<1000000):Pure G Tryz.prog 236 [.lst 4 (l.map Wd.cs)] (.lst 1 ((l.map Wd.text).map srow)):=by
 refine Pure.w c236 λR hR=>?_
 unfold s236 r236
 (repeat' (first|simp only[EVz,seval,↓reduceIte,EV6,EV7,hx.yes,hx.le0,hx.lt',hx.get,hx.row,hw]|simp only[EVz,seval,↓reduceIte,EV6,EV7,hn]|simp only[EVz,seval,↓reduceIte,EV6,EV7]|(with_reducible intro blk hblk;(try(have hnx:=hblk;simp only[EVK]at hnx;(have hne:=hnx))))|(refine⟨[],rfl,(by simp),rfl,?_⟩)|(refine Zq (ι:=Option Nat) (l) (λi r c=>True) (λi c=>[(0,.lst 4 (l.map Wd.cs)),(3,.own c 9 1 ((l.take i).map (λw=>[AV.str w.text]))),(4,.int .i64 i)]) (λi c=>tokS c 9 (i)) (some blk) (by trivial) (Weak.rfl' _ _) (by omega) (λi x r c hok hx hw=>?_) (λc hok hn=>?_))|(refine cV (n:=i) (m':=(i+1)) (by exact bI) (by simp;have:=hx.lt;omega) (by omega) (by omega) rfl (by assumption) (by have:=hx.lt;omega) (λgn=>?_))|(refine af hx gn ?_ (by simp only[hx.take,map_append,map_cons,map_nil];exact Weak.rfl' _ _))|fail))
 (all_goals(((refine hR _ _ (Or.inl (Or.inr ⟨rfl,?_⟩));simp[kf,Function.comp_def];done))))
end
theorem nc (l:List Wd):(l.map Wd.text).all bQ=l.all wdOk:=by simp only[all_map];rfl
theorem ia (l:List Wd):dU (l.map Wd.text)=aS l:=by unfold dU aS;rw[nc,length_map]
def fI (c:UInt8):Bool:=decide ((48:Int)<=c.toNat)&&decide ((c.toNat:Int)<=57)
def isUp (c:UInt8):Bool:=decide ((65:Int)<=c.toNat)&&decide ((c.toNat:Int)<=90)
def je (c:UInt8):Bool:=decide ((97:Int)<=c.toNat)&&decide ((c.toNat:Int)<=122)
def eB (c:UInt8):Bool:=je c||(fI c||decide ((c.toNat:Int)=45))
def d9 (s:List UInt8):Bool:=decide ((1:Int)<=s.length)&&(decide ((s.length:Int)<=16)&&(je (s.getD 0 0)&&s.all eB))
def digN:List UInt8->Nat
 |[]=>0
 |c::s=>if fI c then digN s+1 else 0
theorem kh:∀s:List UInt8,digN s<=s.length
 |[]=>Nat.le_refl _
 |c::s=>by unfold digN;have:=kh s;split<;>simp<;>omega
def bC (s:List UInt8):Bool:=decide ((1:Int)<=digN s)&&(decide ((digN s:Int)<=4)&&(!decide (((s.getD 0 0).toNat:Int)=48)&&(decide (((s.length-digN s:Nat):Int)<=3)&&(s.drop (digN s)).all isUp)))
def fd (i:Nat) (s:Stp):Bool:=(decide (i=0)&&(decide (s.kind=0)&&decide (s.label=[])))||(decide (1<=s.kind)&&(decide (s.kind<=7)&&bC s.label))
def co:Nat->List Stp->Bool
 |_,[]=>true
 |i,s::l=>fd i s&&co (i+1) l
def cC (p:List Stp):Bool:=decide ((p.length:Int)<=9)&&co 0 p
def jv (s:Sta):Bool:=
 if s.kind=1 then inR s.day 0 1048576&&decide (s.event=[])else if s.kind=3 then decide (s.day=0)&&d9 s.event else if s.kind=0\/s.kind=2 then decide (s.day=0)&&decide (s.event=[])else false
section
variable (G:Glob)
theorem f207 (l:List Wd) (hl:l.length<1000000):Pure G Tryz.prog 207 [.lst 4 (l.map Wd.cs)] (.bool (aS l)):=by
 refine Pure.w c207 λR hR=>?_
 unfold s207 r207
 (repeat' (first|(with_reducible (refine ag (λh=>?_) (λh=>?_))<;>(try simp only[Da,Db,Dc,Dw,De,Df,Dg,Dh]at h))|(with_reducible first|refine ab (f236 G _ hl) ?_|refine ab (f53 G (l.map Wd.text) (by simp;omega)) ?_)|simp only[EVz,seval,↓reduceIte,EV6,EV7,ia]|fail))
 (all_goals(first|(exact RET.eq hR rfl)|(refine RET.eq hR ?_;(refine congrArg AV.bool (Bool.eq_iff_iff.2 ?_);simp only[aS,EVB]at*;omega))))
theorem f208 (l:List Wd) (hl:l.length<1000000) (ht:∀w∈l,w.text.length<1000000000000000000):Pure G Tryz.prog 208 [.lst 4 (l.map Wd.cs)] (.bool (aS l)):=by
 refine Pure.w c208 λR hR=>?_
 unfold s208 r208
 (repeat' (first|(with_reducible (refine ae (λh=>?_) (λh=>?_))<;>(try simp only[Da,Db,Dc,Dw,De,Df,Dg,Dh]at h))|(with_reducible refine ab (f237 G _ (by have:=ht _ hx.mem;omega)) ?_)|simp only[EVz,seval,↓reduceIte,EV6,EV7,hx.yes,hx.le0,hx.lt',hx.get,hx.row,hw]|simp only[EVz,seval,↓reduceIte,EV6,EV7,hn]|simp only[EVz,seval,↓reduceIte,EV6,EV7]|(refine af hx () ?_ (Weak.rfl' _ _))|(refine Zq (l) (λi r (c:Unit)=>l.all wdOk=r.all wdOk) (λi c=>[(0,.lst 4 (l.map Wd.cs)),(3,.int .i64 i)]) (λ_ _=>[]) () (by rfl) (Weak.rfl' _ _) (by omega) (λi x r c hok hx hw=>?_) (λc hok hn=>?_))|fail))
 (all_goals(first|(refine RET.eq hR ?_;first|(simp only[aS,wdOk,hok,h,EVC,decide_true,decide_false];done)|(simp only[aS,wdOk,hok,EVC,decide_true,decide_false];done))|(rw[hok];simp only[aS,wdOk,h,EVC,decide_true,decide_false];done)))
theorem f279 (l:List Wd) (hl:l.length<1000000):Pure G Tryz.prog 279 [.lst 4 (l.map Wd.cs)] (.bool (aS l)):=by
 refine Pure.w c279 λR hR=>?_
 unfold s279 r279
 (repeat' (first|(with_reducible (refine ag (λh=>?_) (λh=>?_))<;>(try simp only[Da,Db,Dc,Dw,De,Df,Dg,Dh]at h))|simp only[EVz,seval,↓reduceIte,EV6,EV7,ia,hx.yes,hx.le0,hx.lt',hx.get,hx.row,hw]|simp only[EVz,seval,↓reduceIte,EV6,EV7,ia,hn]|simp only[EVz,seval,↓reduceIte,EV6,EV7,ia]|(with_reducible intro blk hblk;(try(have hnx:=hblk;simp only[EVK]at hnx;(have hne:=hnx))))|(refine Zq (ι:=Option Nat) (l) (λi r c=>True) (λi c=>[(0,.lst 4 (l.map Wd.cs)),(3,.own c 9 1 ((l.take i).map (λw=>[AV.str w.text]))),(6,.lst 4 (l.map Wd.cs)),(7,.int .i64 l.length),(8,.int .i64 i)]) (λi c=>tokS c 9 (i)) (none) (by trivial) (Weak.of (by simp[cQ,Env.get,AVle,aP]) (SubN.refl _)) (by omega) (λi x r c hok hx hw=>?_) (λc hok hn=>?_))|(refine cV (n:=i) (m':=(i+1)) (by exact bT (by assumption)) (by simp;have:=hx.lt;omega) (by omega) (by omega) rfl (by assumption) (by have:=hx.lt;omega) (λgn=>?_))|(refine af hx gn ?_ (by simp only[hx.take,map_append,map_cons,map_nil];exact Weak.rfl' _ _))|(refine aC (f192 G (l.map Wd.text) (by simp;omega)) ⟨.inl (.inr ⟨rfl,by simp[Function.comp_def,kf]⟩),trivial⟩ ?_)|fail))
 (all_goals(first|(exact RET.eq hR rfl)|(refine RET.eq hR ?_;(refine congrArg AV.bool (Bool.eq_iff_iff.2 ?_);simp only[aS,EVB]at*;omega))))
theorem f26 (s:List UInt8):Pure G Tryz.prog 26 [.str s] (.bool (d9 s)):=by
 refine Pure.w c26 λR hR=>?_
 unfold s26 r26
 (repeat' (first|(with_reducible (first|refine ae (λh=>?_) (λh=>?_)|refine ag (λh=>?_) (λh=>?_))<;>(try simp only[Da,Db,Dc,Dw,De,Df,Dg,Dh]at h))|(with_reducible refine AI (by omega) ?_)|simp only[EVz,seval,↓reduceIte,EV6,EV7,hx.yes,hx.le0,hx.lt',hx.get,hx.row,hw]|simp only[EVz,seval,↓reduceIte,EV6,EV7,hn]|simp only[EVz,seval,↓reduceIte,EV6,EV7]|(refine af hx () ?_ (Weak.rfl' _ _))|(refine Zq (s) (λi r (c:Unit)=>s.all eB=r.all eB) (λi c=>[(0,.str s),(3,.int .i64 i)]) (λ_ _=>[]) () (by rfl) (Weak.rfl' _ _) (by omega) (λi x r c hok hx hw=>?_) (λc hok hn=>?_))|(exfalso;omega)|fail))
 (all_goals(first|(refine RET.eq hR ?_;(refine congrArg AV.bool (Bool.eq_iff_iff.2 ?_);simp only[d9,eB,je,fI,EVB]at*;omega))|(refine RET.eq hR ?_;first|(simp_all[d9,eB,je,fI];done)|(simp_all[d9,eB,je,fI];omega))|(rw[hok];simp only[d9,eB,je,fI,h,EVC,decide_true,decide_false];done)|(simp_all[d9,eB,je,fI];done)))
theorem f54 (s:List UInt8) (hs:s.length<1000000000000000000):Pure G Tryz.prog 54 [.str s] (.int .i64 (digN s)):=by
 refine Pure.w c54 λR hR=>?_
 unfold s54 r54
 (repeat' (first|(with_reducible (first|refine ae (λh=>?_) (λh=>?_)|refine ag (λh=>?_) (λh=>?_))<;>(try simp only[Da,Db,Dc,Dw,De,Df,Dg,Dh]at h))|simp only[EVz,seval,↓reduceIte,EV6,EV7,hx.yes,hx.le0,hx.lt',hx.get,hx.row,hw]|simp only[EVz,seval,↓reduceIte,EV6,EV7,hn]|simp only[EVz,seval,↓reduceIte,EV6,EV7]|(refine af hx () ?_ (Weak.rfl' _ _))|(refine Zq (s) (λi r (c:Unit)=>digN s=i+digN r) (λi c=>[(0,.str s),(3,.int .i64 i)]) (λ_ _=>[]) () (by((simp;done))) (Weak.rfl' _ _) (by omega) (λi x r c hok hx hw=>?_) (λc hok hn=>?_))|fail))
 ·have e:digN s=i+1+digN r:=by
   rw[hok,digN,if_pos (by simp[fI];omega)]
   omega
  exact e
 ·have e:digN s=i:=by rw[hok,digN,if_neg (by simp[fI];omega)];rfl
  exact RET.eq hR (by rw[e])
 ·have e:digN s=i:=by rw[hok,digN,if_neg (by simp[fI];omega)];rfl
  exact RET.eq hR (by rw[e])
 ·exact RET.eq hR (by rw[hok];simp[digN])
theorem f27 (s:Sta):Pure G Tryz.prog 27 [.agg [.int .i64 s.kind,.int .i64 s.day,.str s.event]] (.bool (jv s)):=by
 refine Pure.w c27 λR hR=>?_
 unfold s27 r27
 (repeat' (first|(with_reducible (first|refine ae (λh=>?_) (λh=>?_)|refine ag (λh=>?_) (λh=>?_))<;>(try simp only[Da,Db,Dc,Dw,De,Df,Dg,Dh]at h))|(with_reducible first|refine ab (f22 G _ _ _) ?_|refine ab (f26 G _) ?_)|simp only[EVz,seval,↓reduceIte,EV6,EV7]|(exfalso;omega)|fail))
 (all_goals(((refine RET.eq hR ?_;((simp_all[jv];done))))))
end
end Go.Av
