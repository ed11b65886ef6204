/-
  LINT, 6: words, rows, what is searched by a function.
-/
import Derived.Test.YtjdccoplpljmlaaGreatDoorVXC3toXL5
namespace Go.Av
open Go Go.RowKit Go.Proofs List
set_option linter.unusedSimpArgs false
set_option linter.unusedVariables false
def idxF {α:Type} (p:α->Bool):Nat->List α->Int
 |_,[]=>-1
 |i,x::r=>if p x then (i:Int)else idxF p (i+1) r
theorem dW {α:Type} (p:α->Bool):∀(l:List α) (i:Nat),decide (0<=idxF p i l)=l.any p
 |[],i=>rfl
 |x::r,i=>by
  unfold idxF
  cases h:p x with
  |true=>simp[h]
  |false=>simp[h];simpa using dW p r (i+1)
def dH (l:List (List UInt8)):Bool:=decide ((l.length:Int)<=256)&&l.all bX
def irow (n:Int):List AV:=[.int .i64 n]
theorem mi (n:Int):irow n=[.int .i64 n]:=(rfl)
def brow (c:UInt8):List AV:=[.int .u8 c.toNat]
theorem lb (l:List UInt8):dK l=l.map brow:=rfl
theorem lW (c:UInt8):brow c=[.int .u8 c.toNat]:=(rfl)
theorem gm {α:Type} (p:α->Bool) (l:List α):(!l.any λx=>!p x)=l.all p:=by
 induction l with
 |nil=>rfl
 |cons x r ih=>simp[←ih]
section
variable (G:Glob)
theorem f241 (c:UInt8):Pure G Tryz.prog 241 [.int .u8 c.toNat] (.bool (!okCh c)):=by
 refine Pure.w c241 λR E=>?_
 unfold s241 r241
 (repeat' (first|(with_reducible (refine ai (λh=>?_) (λh=>?_))<;>(try simp only[DZ]at h))|simp only[EVz,seval,↓reduceIte,EV6,EV7]))
 (all_goals(((refine RET.eq E ?_;(refine congrArg AV.bool (Bool.eq_iff_iff.2 ?_);simp only[okCh,EVB]at*;omega)))))
theorem f290 (f:Value) (p:UInt8->Bool) (l:List UInt8) (O:l.length<9000000000000000000) (J:∀x∈l,dV G Tryz.prog f [.int .u8 x.toNat] (.bool (p x))):Pure G Tryz.prog 290 [.lst 1 (l.map brow),.sc f] (.int .i64 (idxF p 0 l)):=by
 refine Pure.w c290 λR I=>?_
 unfold s290 r290
 (repeat' (first|(with_reducible (refine ab (λh=>?_) (λh=>?_))<;>(try simp only[DZ]at h))|simp only[EVz,seval,↓reduceIte,EV6,EV7,lW,E.yes,E.le0,E.lt',E.get,E.row,N]|simp only[EVz,seval,↓reduceIte,EV6,EV7,lW,M]|simp only[EVz,seval,↓reduceIte,EV6,EV7,lW]|(refine am E () ?_ (Weak.rfl' _ _))|(refine ax (l) (λi r (c:Unit)=>idxF p 0 l=idxF p i r) (λi c=>[(0,.lst 1 (l.map brow)),(1,.sc f),(7,.int .i64 l.length),(8,.int .i64 i)]) (λ_ _=>[]) () (by rfl) (Weak.rfl' _ _) (by omega) (λi x r c F E N=>?_) (λc F M=>?_))|(refine aD (J _ E.mem) ?_)))
 (all_goals(first|(refine RET.eq I ?_;first|(simp only[idxF,F,EVC,decide_true,decide_false];done)|(simp_all[idxF];done))|(simp_all[idxF];done)))
theorem f242 (f:Value) (p:UInt8->Bool) (l:List UInt8) (I:l.length<9000000000000000000) (F:∀x∈l,dV G Tryz.prog f [.int .u8 x.toNat] (.bool (p x))):Pure G Tryz.prog 242 [.lst 1 (l.map brow),.sc f] (.bool (l.any p)):=by
 refine Pure.w c242 λR E=>?_
 unfold s242 r242
 (repeat' (first|(with_reducible refine aa (f290 G f p l I F) ?_)|simp only[EVz,seval,↓reduceIte,EV6,EV7]))
 (all_goals(((refine RET.eq E ?_;((simp_all[dW];done))))))
theorem f240 (f:Value) (p:List UInt8->Bool) (l:List (List UInt8)) (O:l.length<9000000000000000000) (J:∀x∈l,dV G Tryz.prog f [.str x] (.bool (p x))):Pure G Tryz.prog 240 [.lst 1 (l.map srow),.sc f] (.int .i64 (idxF p 0 l)):=by
 refine Pure.w c240 λR I=>?_
 unfold s240 r240
 (repeat' (first|(with_reducible (refine ab (λh=>?_) (λh=>?_))<;>(try simp only[DZ]at h))|simp only[EVz,seval,↓reduceIte,EV6,EV7,E.yes,E.le0,E.lt',E.get,E.row,N]|simp only[EVz,seval,↓reduceIte,EV6,EV7,M]|simp only[EVz,seval,↓reduceIte,EV6,EV7]|(refine am E () ?_ (Weak.rfl' _ _))|(refine ax (l) (λi r (c:Unit)=>idxF p 0 l=idxF p i r) (λi c=>[(0,.lst 1 (l.map srow)),(1,.sc f),(7,.int .i64 l.length),(8,.int .i64 i)]) (λ_ _=>[]) () (by rfl) (Weak.rfl' _ _) (by omega) (λi x r c F E N=>?_) (λc F M=>?_))|(refine aD (J _ E.mem) ?_)))
 (all_goals(first|(refine RET.eq I ?_;first|(simp only[idxF,F,EVC,decide_true,decide_false];done)|(simp_all[idxF];done))|(simp_all[idxF];done)))
theorem f190 (f:Value) (p:List UInt8->Bool) (l:List (List UInt8)) (I:l.length<9000000000000000000) (F:∀x∈l,dV G Tryz.prog f [.str x] (.bool (p x))):Pure G Tryz.prog 190 [.lst 1 (l.map srow),.sc f] (.bool (l.any p)):=by
 refine Pure.w c190 λR E=>?_
 unfold s190 r190
 (repeat' (first|(with_reducible refine aa (f240 G f p l I F) ?_)|simp only[EVz,seval,↓reduceIte,EV6,EV7]))
 (all_goals(((refine RET.eq E ?_;((simp_all[dW];done))))))
theorem f303 (f:Value) (p:Wd->Bool) (l:List Wd) (O:l.length<9000000000000000000) (J:∀x∈l,dV G Tryz.prog f [.agg x.cs] (.bool (p x))):Pure G Tryz.prog 303 [.lst 4 (l.map Wd.cs),.sc f] (.int .i64 (idxF p 0 l)):=by
 refine Pure.w c303 λR I=>?_
 unfold s303 r303
 (repeat' (first|(with_reducible (refine ab (λh=>?_) (λh=>?_))<;>(try simp only[DZ]at h))|simp only[EVz,seval,↓reduceIte,EV6,EV7,E.yes,E.le0,E.lt',E.get,E.row,N]|simp only[EVz,seval,↓reduceIte,EV6,EV7,M]|simp only[EVz,seval,↓reduceIte,EV6,EV7]|(refine am E () ?_ (Weak.rfl' _ _))|(refine ax (l) (λi r (c:Unit)=>idxF p 0 l=idxF p i r) (λi c=>[(0,.lst 4 (l.map Wd.cs)),(1,.sc f),(7,.int .i64 l.length),(8,.int .i64 i)]) (λ_ _=>[]) () (by rfl) (Weak.rfl' _ _) (by omega) (λi x r c F E N=>?_) (λc F M=>?_))|(refine aD (J _ E.mem) ?_)))
 (all_goals(first|(refine RET.eq I ?_;first|(simp only[idxF,F,EVC,decide_true,decide_false];done)|(simp_all[idxF];done))|(simp_all[idxF];done)))
theorem f258 (f:Value) (p:Wd->Bool) (l:List Wd) (I:l.length<9000000000000000000) (F:∀x∈l,dV G Tryz.prog f [.agg x.cs] (.bool (p x))):Pure G Tryz.prog 258 [.lst 4 (l.map Wd.cs),.sc f] (.bool (l.any p)):=by
 refine Pure.w c258 λR E=>?_
 unfold s258 r258
 (repeat' (first|(with_reducible refine aa (f303 G f p l I F) ?_)|simp only[EVz,seval,↓reduceIte,EV6,EV7]))
 (all_goals(((refine RET.eq E ?_;((simp_all[dW];done))))))
theorem f147 (l:List Int) (k:Int) (N:l.length<9000000000000000000):Pure G Tryz.prog 147 [.lst 1 (l.map irow),.int .i64 k] (.int .i64 (idxF (λx=>decide (k=x)) 0 l)):=by
 refine Pure.w c147 λR I=>?_
 unfold s147 r147
 (repeat' (first|(with_reducible (refine ab (λh=>?_) (λh=>?_))<;>(try simp only[DZ]at h))|simp only[EVz,seval,↓reduceIte,EV6,EV7,mi,E.yes,E.le0,E.lt',E.get,E.row,M]|simp only[EVz,seval,↓reduceIte,EV6,EV7,mi,J]|simp only[EVz,seval,↓reduceIte,EV6,EV7,mi]|(refine am E () ?_ (Weak.rfl' _ _))|(refine ax (l) (λi r (c:Unit)=>idxF (λx=>decide (k=x)) 0 l=idxF (λx=>decide (k=x)) i r) (λi c=>[(0,.lst 1 (l.map irow)),(1,.int .i64 k),(7,.int .i64 l.length),(8,.int .i64 i)]) (λ_ _=>[]) () (by rfl) (Weak.rfl' _ _) (by omega) (λi x r c F E M=>?_) (λc F J=>?_))))
 (all_goals(first|(refine RET.eq I ?_;first|(simp only[idxF,F,EVC,decide_true,decide_false];done)|(simp_all[idxF];done))|(simp_all[idxF];done)))
theorem f131 (l:List Int) (k:Int) (F:l.length<9000000000000000000):Pure G Tryz.prog 131 [.lst 1 (l.map irow),.int .i64 k] (.bool (l.any λx=>decide (k=x))):=by
 refine Pure.w c131 λR E=>?_
 unfold s131 r131
 (repeat' (first|(with_reducible refine aa (f147 G l k F) ?_)|simp only[EVz,seval,↓reduceIte,EV6,EV7]))
 (all_goals(((refine RET.eq E ?_;((simp_all[dW];done))))))
theorem f192 (s:List UInt8):Pure G Tryz.prog 192 [.str s] (.bool (bX s)):=by
 refine Pure.w c192 λR E=>?_
 unfold s192 r192
 (repeat' (first|(with_reducible (refine ai (λh=>?_) (λh=>?_))<;>(try simp only[DZ]at h))|(with_reducible refine aa (f242 G _ (λc=>!okCh c) s (by omega) (λx _=>(f241 G x).v)) ?_)|simp only[EVz,seval,↓reduceIte,EV6,EV7,lb,gm]|(refine l5 (l:=s) (elem:=5) rfl (by omega) (by kernel_rfl) (by kernel_rfl) (by kernel_rfl) ?_)))
 all_goals(try have F:(1:Int)<=s.length:=by have:0<s.length:=length_pos_iff.2 (by assumption);omega)
 (all_goals(first|(refine RET.eq E ?_;(refine congrArg AV.bool (Bool.eq_iff_iff.2 ?_);simp only[bX,gm,EVB]at*;omega))|(refine RET.eq E ?_;((simp_all[bX,gm];done)))))
end
theorem appX_oneF {e:TypeId} {sz bytes:Nat} {σ:Store} {g:Option Nat} {rows ys:List (List AV)} {K:AV->Store->Prop} (κ:Store) (O:∀b,g=some b->σ.get b=some (.tok e (rows.length*sz))) (J:Fits (rows.length+ys.length) bytes)
  (E:SubN κ (σ.erase g)) (T:∀F,(∀b,F=some b->b∉κ.keys)->K (.own F e sz (rows++ys)) (κ++tokS F e ((rows++ys).length*sz))):appX e sz bytes σ g rows ys K:=by
 refine⟨O,J,λF _ M=>⟨κ++tokS F e ((rows++ys).length*sz),⟨?_,?_⟩,T F (λb J V=>M b J (cj E.1 V))⟩⟩
 ·intro p I
  rcases mem_append.1 I with I|I
  ·exact mem_append.2 (.inr (E.1 p I))
  ·exact mem_append.2 (.inl I)
 ·intro N
  rw[aB]at N ⊢
  obtain⟨Z,n2,n3⟩:=nodup_append.1 N
  exact nodup_append.2 ⟨E.2 n2,Z,λx X y Y e=>n3 y Y x (cj E.1 X) e.symm⟩
theorem fN {e:TypeId} {sz bytes:Nat} {σ:Store} {g:Option Nat} {rows ys:List (List AV)} {K:AV->Store->Prop} (κ:Store) (J:∀b,g=some b->σ.get b=some (.tok e (rows.length*sz))) (I:(rows.length+ys.length)*bytes<=140737488355328)
  (F:SubN κ (σ.erase g)) (M:∀E,(∀b,E=some b->b∉κ.keys)->K (.own E e sz (rows++ys)) (κ++tokS E e ((rows++ys).length*sz))):appX e sz bytes σ g rows ys K:=appX_oneF κ J (.inl I) F M
theorem gk {e:TypeId} {sz bytes n m m':Nat} {τ:Store} {g:Option Nat} {rows:List (List AV)} {cs:List AV} {K:AV->Store->Prop} {b k1:Nat} (J:∀d,g=some d->τ.get d=some (.tok e m)) (Z:rows.length=n) (X:m=n*sz) (I:m'=(n+1)*sz) (V:cs.length=sz)
  (N:b∉τ.keys) (Y:(n+1)*bytes<=140737488355328) (T:∀E,K (.own E e sz (rows++[cs])) (tokS E e m')):
  ∃F:List (List AV),F.length=1/\(∀r∈F,r.length=sz)/\F.flatten=cs/\appX e sz bytes ((b,.tok e k1)::τ) g rows F K:=by
 subst X I Z
 refine⟨[cs],rfl,by simpa using V,by simp,fN [] (λd O=>?_) (by simpa using Y) (SubN.nil _) (λE _=>by simpa using T E)⟩
 have M:=J d O
 have:¬b=d:=by
  rintro rfl
  exact N (mem_map.2 ⟨_,Store.get_mem M,rfl⟩)
 simp only[Store.get,if_neg this]
 exact M
theorem Weak.sub {G:Glob} {env:Env} {σ σ':Store} (E:SubN σ' σ):Weak G env σ env σ':=λρ w tmps I F=>⟨I.subN E,Ev.of_sub E.1 w,λj=>Rep.ev (Ev.of_sub E.1 w) _ _ (F j)⟩
theorem io {g:Option Nat} {e:TypeId} {k:Nat}:∀d,g=some d->(tokS g e k).get d=some (.tok e k):=by
 rintro d rfl;simp[tokS,Store.get]
theorem dh {g:Option Nat} {e:TypeId} {k c:Nat} {y:AObj} (E:c∉(tokS g e k).keys):∀d,g=some d->Store.get ((c,y)::tokS g e k) d=some (.tok e k):=by
 rintro d rfl
 have:¬c=d:=by rintro rfl;exact E (by simp[tokS,Store.keys])
 simp[tokS,Store.get,this]
theorem gH {g:Option Nat} {e:TypeId} {k c c2:Nat} {y M:AObj} (J:c∉(tokS g e k).keys) (E:c2∉Store.keys ((c,y)::tokS g e k)):∀d,g=some d->Store.get ((c2,M)::(c,y)::tokS g e k) d=some (.tok e k):=by
 rintro d rfl
 have F:¬c=d:=by rintro rfl;exact J (by simp[tokS,Store.keys])
 have I:¬c2=d:=by rintro rfl;exact E (by simp[tokS,Store.keys])
 simp[tokS,Store.get,F,I]
section
variable (G:Glob)
theorem f191 (s:List UInt8):Pure G Tryz.prog 191 [.str s] (.bool (!bX s)):=by
 refine Pure.w c191 λR E=>?_
 unfold s191 r191
 (repeat' (first|(with_reducible refine aa (f192 G _) ?_)|simp only[EVz,seval,↓reduceIte,EV6,EV7]))
 (all_goals((exact RET.eq E rfl)))
theorem f130 (l:List (List UInt8)) (F:l.length<9000000000000000000):Pure G Tryz.prog 130 [.lst 1 (l.map srow)] (.bool (dH l)):=by
 refine Pure.w c130 λR E=>?_
 unfold s130 r130
 (repeat' (first|(with_reducible (refine ai (λh=>?_) (λh=>?_))<;>(try simp only[DZ]at h))|(with_reducible refine aa (f190 G _ (λc=>!bX c) l F (λx _=>(f191 G x).v)) ?_)|simp only[EVz,seval,↓reduceIte,EV6,EV7,gm]))
 (all_goals(first|(refine RET.eq E ?_;(refine congrArg AV.bool (Bool.eq_iff_iff.2 ?_);simp only[dH,gm,EVB]at*;omega))|(refine RET.eq E ?_;((simp_all[dH,gm];done)))))
theorem f186 (l:List (List UInt8)) (N:l.length<9000000000000000000):Pure G Tryz.prog 186 [.lst 1 (l.map srow)] (.bool (dH l)):=by
 refine Pure.w c186 λR I=>?_
 unfold s186 r186
 (repeat' (first|(with_reducible (refine ab (λh=>?_) (λh=>?_))<;>(try simp only[DZ]at h))|(with_reducible refine aa (f238 G _) ?_)|simp only[EVz,seval,↓reduceIte,EV6,EV7,F.yes,F.le0,F.lt',F.get,F.row,M]|simp only[EVz,seval,↓reduceIte,EV6,EV7,J]|simp only[EVz,seval,↓reduceIte,EV6,EV7]|(refine am F () ?_ (Weak.rfl' _ _))|(refine ax (l) (λi r (c:Unit)=>l.all bX=r.all bX) (λi c=>[(0,.lst 1 (l.map srow)),(3,.int .i64 i)]) (λ_ _=>[]) () (by rfl) (Weak.rfl' _ _) (by omega) (λi x r c E F M=>?_) (λc E J=>?_))))
 (all_goals(first|(refine RET.eq I ?_;(refine congrArg AV.bool (Bool.eq_iff_iff.2 ?_);simp only[dH,EVB]at*;omega))|(refine RET.eq I ?_;((simp only[dH,E,h,EVC,decide_true,decide_false];done)))|(rw[E];simp only[dH,h,EVC,decide_true,decide_false];done)))
theorem f158 (l:List (List UInt8)) (n:Int) (F:l.length<9000000000000000000):Pure G Tryz.prog 158 [.lst 1 (l.map srow),.int .i64 n] (.bool (dH l&&decide (n<=(l.length:Int)))):=by
 refine Pure.w c158 λR E=>?_
 unfold s158 r158
 (repeat' (first|(with_reducible (refine ai (λh=>?_) (λh=>?_))<;>(try simp only[DZ]at h))|(with_reducible refine aa (f130 G _ F) ?_)|simp only[EVz,seval,↓reduceIte,EV6,EV7]))
 (all_goals(((refine RET.eq E ?_;((simp_all[];done))))))
def wdOk (w:Wd):Bool:=bX w.text
def aX (l:List Wd):Bool:=decide ((l.length:Int)<=256)&&l.all wdOk
theorem f98 (l:List Wd) (Y:l.length<1000000):Pure G Tryz.prog 98 [.lst 4 (l.map Wd.cs)] (.lst 1 ((l.map Wd.text).map srow)):=by
 refine Pure.w c98 λR O=>?_
 unfold s98 r98
 (repeat' (first|simp only[EVz,seval,↓reduceIte,EV6,EV7,E.yes,E.le0,E.lt',E.get,E.row,X]|simp only[EVz,seval,↓reduceIte,EV6,EV7,T]|simp only[EVz,seval,↓reduceIte,EV6,EV7]|(with_reducible intro J F;(try(have I:=F;simp only[EVK]at I;(have V:=I))))|(refine⟨[],rfl,(by simp),rfl,?_⟩)|(refine ax (ι:=Option Nat) (l) (λi r c=>True) (λi c=>[(0,.lst 4 (l.map Wd.cs)),(3,.own c 9 1 ((l.take i).map (λw=>[AV.str w.text]))),(4,.int .i64 i)]) (λi c=>tokS c 9 (i)) (some J) (by trivial) (Weak.rfl' _ _) (by omega) (λi x r c M E X=>?_) (λc M T=>?_))|(refine gk (n:=i) (m':=(i+1)) (by exact io) (by simp;have:=E.lt;omega) (by omega) (by omega) rfl (by assumption) (by have:=E.lt;omega) (λN=>?_))|(refine am E N ?_ (by simp only[E.take,map_append,map_cons,map_nil];exact Weak.rfl' _ _))))
 (all_goals(((refine O _ _ (Or.inl (Or.inr ⟨rfl,?_⟩));simp[mL,Function.comp_def];done))))
end
theorem mJ (l:List Wd):(l.map Wd.text).all bX=l.all wdOk:=by simp only[all_map];rfl
theorem gu (l:List Wd):dH (l.map Wd.text)=aX l:=by unfold dH aX;rw[mJ,length_map]
def je (c:UInt8):Bool:=decide ((48:Int)<=c.toNat)&&decide ((c.toNat:Int)<=57)
def isUp (c:UInt8):Bool:=decide ((65:Int)<=c.toNat)&&decide ((c.toNat:Int)<=90)
def isLow (c:UInt8):Bool:=decide ((97:Int)<=c.toNat)&&decide ((c.toNat:Int)<=122)
def kA (c:UInt8):Bool:=isLow c||(je c||decide ((c.toNat:Int)=45))
def gS (s:List UInt8):Bool:=decide ((1:Int)<=s.length)&&(decide ((s.length:Int)<=16)&&(isLow (s.getD 0 0)&&s.all kA))
def digN:List UInt8->Nat
 |[]=>0
 |c::s=>if je c then digN s+1 else 0
theorem jF:∀s:List UInt8,digN s<=s.length
 |[]=>Nat.le_refl _
 |c::s=>by unfold digN;have:=jF s;split<;>simp<;>omega
def bc (s:List UInt8):Bool:=decide ((1:Int)<=digN s)&&(decide ((digN s:Int)<=4)&&(!decide (((s.getD 0 0).toNat:Int)=48)&&(decide (((s.length-digN s:Nat):Int)<=3)&&(s.drop (digN s)).all isUp)))
def i7 (i:Nat) (s:Stp):Bool:=(decide (i=0)&&(decide (s.kind=0)&&decide (s.label=[])))||(decide (1<=s.kind)&&(decide (s.kind<=7)&&bc s.label))
def dX:Nat->List Stp->Bool
 |_,[]=>true
 |i,s::l=>i7 i s&&dX (i+1) l
def dP (p:List Stp):Bool:=decide ((p.length:Int)<=9)&&dX 0 p
def l6 (s:Sta):Bool:=
 if s.kind=1 then inR s.day 0 1048576&&decide (s.event=[])else if s.kind=3 then decide (s.day=0)&&gS s.event else if s.kind=0\/s.kind=2 then decide (s.day=0)&&decide (s.event=[])else false
section
variable (G:Glob)
theorem f125 (l:List Wd) (F:l.length<1000000):Pure G Tryz.prog 125 [.lst 4 (l.map Wd.cs)] (.bool (aX l)):=by
 refine Pure.w c125 λR E=>?_
 unfold s125 r125
 (repeat' (first|(with_reducible (refine ai (λh=>?_) (λh=>?_))<;>(try simp only[DZ]at h))|(with_reducible first|refine aa (f98 G _ F) ?_|refine aa (f186 G (l.map Wd.text) (by simp;omega)) ?_)|simp only[EVz,seval,↓reduceIte,EV6,EV7,gu]))
 (all_goals(first|(exact RET.eq E rfl)|(refine RET.eq E ?_;(refine congrArg AV.bool (Bool.eq_iff_iff.2 ?_);simp only[aX,EVB]at*;omega))))
theorem f76 (l:List Wd) (Y:l.length<1000000):Pure G Tryz.prog 76 [.lst 4 (l.map Wd.cs)] (.bool (aX l)):=by
 refine Pure.w c76 λR M=>?_
 unfold s76 r76
 (repeat' (first|(with_reducible (refine ai (λh=>?_) (λh=>?_))<;>(try simp only[DZ]at h))|simp only[EVz,seval,↓reduceIte,EV6,EV7,gu,E.yes,E.le0,E.lt',E.get,E.row,X]|simp only[EVz,seval,↓reduceIte,EV6,EV7,gu,T]|simp only[EVz,seval,↓reduceIte,EV6,EV7,gu]|(with_reducible intro N F;(try(have I:=F;simp only[EVK]at I;(have V:=I))))|(refine ax (ι:=Option Nat) (l) (λi r c=>True) (λi c=>[(0,.lst 4 (l.map Wd.cs)),(3,.own c 9 1 ((l.take i).map (λw=>[AV.str w.text]))),(6,.lst 4 (l.map Wd.cs)),(7,.int .i64 l.length),(8,.int .i64 i)]) (λi c=>tokS c 9 (i)) (none) (by trivial) (Weak.of (by simp[dI,Env.get,AVle,aU]) (SubN.refl _)) (by omega) (λi x r c J E X=>?_) (λc J T=>?_))|(refine gk (n:=i) (m':=(i+1)) (by exact dh (by assumption)) (by simp;have:=E.lt;omega) (by omega) (by omega) rfl (by assumption) (by have:=E.lt;omega) (λO=>?_))|(refine am E O ?_ (by simp only[E.take,map_append,map_cons,map_nil];exact Weak.rfl' _ _))|(refine aI (f130 G (l.map Wd.text) (by simp;omega)) ⟨.inl (.inr ⟨rfl,by simp[Function.comp_def,mL]⟩),trivial⟩ ?_)))
 (all_goals(first|(exact RET.eq M rfl)|(refine RET.eq M ?_;(refine congrArg AV.bool (Bool.eq_iff_iff.2 ?_);simp only[aX,EVB]at*;omega))))
theorem f187 (s:List UInt8) (N:s.length<1000000000000000000):Pure G Tryz.prog 187 [.str s] (.int .i64 (digN s)):=by
 refine Pure.w c187 λR I=>?_
 unfold s187 r187
 (repeat' (first|(with_reducible (first|refine ab (λh=>?_) (λh=>?_)|refine ai (λh=>?_) (λh=>?_))<;>(try simp only[DZ]at h))|simp only[EVz,seval,↓reduceIte,EV6,EV7,F.yes,F.le0,F.lt',F.get,F.row,M]|simp only[EVz,seval,↓reduceIte,EV6,EV7,J]|simp only[EVz,seval,↓reduceIte,EV6,EV7]|(refine am F () ?_ (Weak.rfl' _ _))|(refine ax (s) (λi r (c:Unit)=>digN s=i+digN r) (λi c=>[(0,.str s),(3,.int .i64 i)]) (λ_ _=>[]) () (by((simp;done))) (Weak.rfl' _ _) (by omega) (λi x r c E F M=>?_) (λc E J=>?_))))
 ·have e:digN s=i+1+digN r:=by
   rw[E,digN,if_pos (by simp[je];omega)]
   omega
  exact e
 ·have e:digN s=i:=by rw[E,digN,if_neg (by simp[je];omega)];rfl
  exact RET.eq I (by rw[e])
 ·have e:digN s=i:=by rw[E,digN,if_neg (by simp[je];omega)];rfl
  exact RET.eq I (by rw[e])
 ·exact RET.eq I (by rw[E];simp[digN])
end
end Go.Av
