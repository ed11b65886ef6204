/-
  TOP, 3: rows merged in place; the stable sort of acts.
-/
import Derived.Test.YtjdccoplpljmlaaGreatDoorVXAv34toXY2
namespace Go.Av
open Go Go.RowKit Go.Proofs List
set_option linter.unusedSimpArgs false
set_option linter.unusedVariables false
theorem cu64 {n:Int} (h:0<=n) (E:n<9223372036854775808):IntKind.u64.wrap n=n:=by simp[IntKind.wrap,IntKind.bits,IntKind.signed];omega
theorem fD (x:Nat):((x:Int) / 2)=((x / 2:Nat):Int):=by omega
section
variable (G:Glob)
set_option maxRecDepth 8000 in
set_option maxHeartbeats 16000000 in
theorem f308 (b cap:Nat) (L0:List (List AV)) (pad:List AV) (h7:∀r∈L0,r.length=7) (hn:L0.length<1000000) (f:Value) (hf:CmpF G L0 f):
  ∀(d:Nat) (L:List (List AV)),Like L0 L->∀(x m y:Nat),y-x=d->x<m->m<y->y<=L.length->
  aj G Tryz.prog 308 [rawS b L.length cap,.int .i64 x,.int .i64 m,.int .i64 y,.sc f] [(b,.cells 100 (L.flatten++pad))] (iK b L0 pad):=by
 intro d
 induction d using Nat.strongRecOn with
 |_ d ih=>
 intro L hL x m y hd hx hm hy
 have hLl:=hL.1
 have hsw:=λ(M:List (List AV)) (hM:Like L0 M) (p q r:Nat) (h1:p<q) (h2:q<r) (h3:r<=M.length)=>f354 G b cap L0 M pad h7 hM (by rw[hM.1];exact hn) p q r h1 h2 h3 f
 have hle:∀{M},Like L0 M->M.length=L.length:=λhM=>hM.1.trans hL.1.symm
 have hcmp:∀{M:List (List AV)} (hM:Like L0 M) {i j:Nat} (hi:i<L.length) (hj:j<L.length),∃(X Y:List AV) (k:Int),M.getD i []=X/\M.getD j []=Y/\RowF 7 M pad i/\RowF 7 M pad j/\X∈L0/\Y∈L0/\dV G Tryz.prog f [.agg X,.agg Y] (.int .i64 k):=λ{M} hM {i j} hi hj=>by
  have:=hle hM
  obtain⟨k,hk⟩:=hf _ (hM.get (i:=i) (by omega)) _ (hM.get (i:=j) (by omega))
  exact⟨_,_,k,rfl,rfl,rowF (hM.row h7) (by omega),rowF (hM.row h7) (by omega),hM.get (by omega),hM.get (by omega),hk⟩
 refine aj.w c308 ?_
 unfold s308 r308
 have w0:=wsub (x:=m) (y:=x) (by omega) (by omega)
 have w1:=wsub (x:=y) (y:=m) (by omega) (by omega)
 by_cases hA:m-x=1
 ·have e0:decide (((m-x:Nat):Int)=1)=true:=decide_eq_true (by omega)
  (repeat' (simp only[EVz,seval,↓reduceIte,EV6,EV7,w0,e0]))
  refine bv (ι:=Nat×Nat) (λp=>m<=p.1/\p.1<=p.2/\p.2<=y) (λp=>p.2-p.1) (λp=>[(0,rawS b L.length cap),(1,.int .i64 x),(4,.sc f),(10,.int .i64 p.1),(11,.int .i64 p.2)]) (λ_=>[(b,.cells 100 (L.flatten++pad))]) (m,y) ⟨by simp only;omega,by simp only;omega,by simp only;omega⟩ (Weak.rfl' _ _) ?_
  rintro⟨i,j⟩ ⟨hi,hij,hj⟩
  simp only at hi hij hj ⊢
  by_cases hlt:i<j
  ·have e1:decide ((i:Int)<(j:Int))=true:=decide_eq_true (by omega)
   obtain⟨g,hh⟩:∃g,(i+j) / 2=g:=⟨_,rfl⟩
   have v1:=wadd (x:=i) (y:=j) (by omega) (by omega)
   have v2:IntKind.u64.wrap (((i+j:Nat):Int))=((i+j:Nat):Int):=cu64 (by omega) (by omega)
   have v3:IntKind.i64.wrap (((i+j:Nat):Int) / 2)=(g:Int):=by rw[fD,hh,av (by omega) (by omega)]
   have v4:IntKind.i64.wrap ((g:Int)+1)=((g+1:Nat):Int):=by rw[av (by omega) (by omega)];omega
   obtain⟨X,Y,k,hX,hY,⟨a1,a2,a3,a4,a5⟩,⟨c1,c2,c3,c4,c5⟩,m1,m2,hk⟩:=hcmp hL (i:=g) (j:=x) (by omega) (by omega)
   rw[hX]at a1;rw[hY]at c1
   (repeat' (first|(with_reducible (refine ab (λh=>?_) (λh=>?_))<;>(try simp only[DZ]at h))|(with_reducible refine AI (by omega) ?_)|simp only[EVz,seval,↓reduceIte,EV6,EV7,e1,v1,v2,v3,v4,a1,c1,Int.toNat_natCast]|(with_reducible first|refine ae ?_ ?_|refine af ?_)|(refine ek rfl ?_)|(refine aD hk ?_)))
   all_goals first|exact⟨(g+1,j),⟨by simp only;omega,by simp only;omega,by simp only;omega⟩,by simp only;omega,Weak.rfl' _ _⟩|exact⟨(i,g),⟨by simp only;omega,by simp only;omega,by simp only;omega⟩,by simp only;omega,Weak.rfl' _ _⟩
  ·have e1:decide ((i:Int)<(j:Int))=false:=decide_eq_false (by omega)
   (repeat' (simp only[EVz,seval,↓reduceIte,EV6,EV7,e1]))
   refine bv (ι:=Nat×List (List AV)) (λp=>x<=p.1/\p.1<=i-1/\Like L0 p.2) (λp=>i-p.1) (λp=>[(0,rawS b L.length cap),(10,.int .i64 i),(13,.int .i64 p.1)]) (λp=>[(b,.cells 100 (p.2.flatten++pad))]) (x,L) ⟨by simp only;omega,by simp only;omega,hL⟩ (Weak.rfl' _ _) ?_
   rintro⟨k,M⟩ ⟨hk0,hk,hM⟩
   simp only at hk0 hk hM ⊢
   have hMl:=hle hM
   have v1:=kC (x:=i) (by omega) (by omega)
   by_cases hki:k<i-1
   ·have e2:decide ((k:Int)<((i-1:Nat):Int))=true:=decide_eq_true (by omega)
    have v4:IntKind.i64.wrap ((k:Int)+1)=((k+1:Nat):Int):=by rw[av (by omega) (by omega)];omega
    obtain⟨X,Y,_,hX,hY,⟨a1,a2,a3,a4,a5⟩,⟨c1,c2,c3,c4,c5⟩,m1,m2,_⟩:=hcmp hM (i:=k) (j:=k+1) (by omega) (by omega)
    rw[hX]at a1 a4;rw[hY]at c1 c4
    have M1:Like L0 (M.set k Y):=hM.set m2 _
    have r3:=rowF (pad:=pad) (M1.row h7) (i:=k+1) (by rw[length_set];omega)
    have hset:=a5 Y c4
    have hset2:=r3.set X a4
    have hfit:=r3.fit
    have M2:Like L0 ((M.set k Y).set (k+1) X):=M1.set m1 _
    (repeat' (first|(with_reducible refine AI (by omega) ?_)|simp only[EVz,seval,↓reduceIte,EV6,EV7,e2,v1,v4,a1,c1,hset,hset2,Int.toNat_natCast]|(with_reducible first|refine ae ?_ ?_|refine af ?_)))
    all_goals exact⟨(k+1,(M.set k Y).set (k+1) X),⟨by simp only;omega,by simp only;omega,M2⟩,by simp only;omega,Weak.rfl' _ _⟩
   ·have e2:decide ((k:Int)<((i-1:Nat):Int))=false:=decide_eq_false (by omega)
    (repeat' (simp only[EVz,seval,↓reduceIte,EV6,EV7,e2,v1]))
    all_goals exact retI ⟨rfl,M,hM,rfl⟩
 have e0:decide (((m-x:Nat):Int)=1)=false:=decide_eq_false (by omega)
 by_cases hB:y-m=1
 ·have e1:decide (((y-m:Nat):Int)=1)=true:=decide_eq_true (by omega)
  (repeat' (simp only[EVz,seval,↓reduceIte,EV6,EV7,w0,w1,e0,e1]))
  refine bv (ι:=Nat×Nat) (λp=>x<=p.1/\p.1<=p.2/\p.2<=m) (λp=>p.2-p.1) (λp=>[(0,rawS b L.length cap),(2,.int .i64 m),(4,.sc f),(14,.int .i64 p.1),(15,.int .i64 p.2)]) (λ_=>[(b,.cells 100 (L.flatten++pad))]) (x,m) ⟨by simp only;omega,by simp only;omega,by simp only;omega⟩ (Weak.rfl' _ _) ?_
  rintro⟨i,j⟩ ⟨hi,hij,hj⟩
  simp only at hi hij hj ⊢
  by_cases hlt:i<j
  ·have e2:decide ((i:Int)<(j:Int))=true:=decide_eq_true (by omega)
   obtain⟨g,hh⟩:∃g,(i+j) / 2=g:=⟨_,rfl⟩
   have v1:=wadd (x:=i) (y:=j) (by omega) (by omega)
   have v2:IntKind.u64.wrap (((i+j:Nat):Int))=((i+j:Nat):Int):=cu64 (by omega) (by omega)
   have v3:IntKind.i64.wrap (((i+j:Nat):Int) / 2)=(g:Int):=by rw[fD,hh,av (by omega) (by omega)]
   have v4:IntKind.i64.wrap ((g:Int)+1)=((g+1:Nat):Int):=by rw[av (by omega) (by omega)];omega
   obtain⟨X,Y,k,hX,hY,⟨a1,a2,a3,a4,a5⟩,⟨c1,c2,c3,c4,c5⟩,m1,m2,hk⟩:=hcmp hL (i:=m) (j:=g) (by omega) (by omega)
   rw[hX]at a1;rw[hY]at c1
   (repeat' (first|(with_reducible (refine ab (λh=>?_) (λh=>?_))<;>(try simp only[DZ]at h))|(with_reducible refine AI (by omega) ?_)|simp only[EVz,seval,↓reduceIte,EV6,EV7,e2,v1,v2,v3,v4,a1,c1,Int.toNat_natCast]|(with_reducible first|refine ae ?_ ?_|refine af ?_)|(refine ek rfl ?_)|(refine aD hk ?_)))
   all_goals first|exact⟨(g+1,j),⟨by simp only;omega,by simp only;omega,by simp only;omega⟩,by simp only;omega,Weak.rfl' _ _⟩|exact⟨(i,g),⟨by simp only;omega,by simp only;omega,by simp only;omega⟩,by simp only;omega,Weak.rfl' _ _⟩
  ·have e2:decide ((i:Int)<(j:Int))=false:=decide_eq_false (by omega)
   (repeat' (simp only[EVz,seval,↓reduceIte,EV6,EV7,e2]))
   refine bv (ι:=Nat×List (List AV)) (λp=>i<=p.1/\p.1<=m/\Like L0 p.2) (λp=>p.1) (λp=>[(0,rawS b L.length cap),(14,.int .i64 i),(17,.int .i64 p.1)]) (λp=>[(b,.cells 100 (p.2.flatten++pad))]) (m,L) ⟨by simp only;omega,by simp only;omega,hL⟩ (Weak.rfl' _ _) ?_
   rintro⟨k,M⟩ ⟨hk0,hk,hM⟩
   simp only at hk0 hk hM ⊢
   have hMl:=hle hM
   by_cases hki:i<k
   ·have e3:decide ((i:Int)<(k:Int))=true:=decide_eq_true (by omega)
    have v1:=kC (x:=k) (by omega) (by omega)
    obtain⟨X,Y,_,hX,hY,⟨a1,a2,a3,a4,a5⟩,⟨c1,c2,c3,c4,c5⟩,m1,m2,_⟩:=hcmp hM (i:=k) (j:=k-1) (by omega) (by omega)
    rw[hX]at a1 a4;rw[hY]at c1 c4
    have M1:Like L0 (M.set k Y):=hM.set m2 _
    have r3:=rowF (pad:=pad) (M1.row h7) (i:=k-1) (by rw[length_set];omega)
    have hset:=a5 Y c4
    have hset2:=r3.set X a4
    have hfit:=r3.fit
    have M2:Like L0 ((M.set k Y).set (k-1) X):=M1.set m1 _
    (repeat' (first|(with_reducible refine AI (by omega) ?_)|simp only[EVz,seval,↓reduceIte,EV6,EV7,e3,v1,a1,c1,hset,hset2,Int.toNat_natCast]|(with_reducible first|refine ae ?_ ?_|refine af ?_)))
    all_goals exact⟨(k-1,(M.set k Y).set (k-1) X),⟨by simp only;omega,by simp only;omega,M2⟩,by simp only;omega,Weak.rfl' _ _⟩
   ·have e3:decide ((i:Int)<(k:Int))=false:=decide_eq_false (by omega)
    (repeat' (simp only[EVz,seval,↓reduceIte,EV6,EV7,e3]))
    all_goals exact retI ⟨rfl,M,hM,rfl⟩
 have e1:decide (((y-m:Nat):Int)=1)=false:=decide_eq_false (by omega)
 obtain⟨mid,hmid⟩:∃mid,(x+y) / 2=mid:=⟨_,rfl⟩
 have v1:=wadd (x:=x) (y:=y) (by omega) (by omega)
 have v2:IntKind.u64.wrap (((x+y:Nat):Int))=((x+y:Nat):Int):=cu64 (by omega) (by omega)
 have v3:IntKind.i64.wrap (((x+y:Nat):Int) / 2)=(mid:Int):=by rw[fD,hmid,av (by omega) (by omega)]
 have v4:=wadd (x:=mid) (y:=m) (by omega) (by omega)
 have v6:IntKind.i64.wrap (((mid+m:Nat):Int)-1)=((mid+m-1:Nat):Int):=by rw[av (by omega) (by omega)];omega
 have hsw':∀(M:List (List AV)) (hM:Like L0 M) (p q r:Nat),p<q->q<r->r<=L.length->aj G Tryz.prog 354 [rawS b L.length cap,.int .i64 p,.int .i64 q,.int .i64 r,.sc f] [(b,.cells 100 (M.flatten++pad))] (iK b L0 pad):=λM hM p q r h1 h2 h3=>by
  have:=hsw M hM p q r h1 h2 (by rw[hle hM];exact h3)
  rwa [hle hM]at this
 have hih:∀(M:List (List AV)) (hM:Like L0 M) (p q r:Nat),r-p<d->p<q->q<r->r<=L.length->aj G Tryz.prog 308 [rawS b L.length cap,.int .i64 p,.int .i64 q,.int .i64 r,.sc f] [(b,.cells 100 (M.flatten++pad))] (iK b L0 pad):=λM hM p q r h0 h1 h2 h3=>by
  have:=ih (r-p) h0 M hM p q r rfl h1 h2 (by rw[hle hM];exact h3)
  rwa [hle hM]at this
 clear ih hsw
 obtain⟨s0,r0,hs0,g1,g2,g3,g4,g5⟩:∃s0 r0:Nat,((mid<m/\mid+m-y=s0/\mid=r0)\/(¬mid<m/\x=s0/\m=r0))/\x<=s0/\s0<=r0/\r0<=L.length/\mid+m<=s0+y/\r0<mid+m:=by
  by_cases hmm:mid<m
  ·exact⟨mid+m-y,mid,.inl ⟨hmm,rfl,rfl⟩,by omega,by omega,by omega,by omega,by omega⟩
  ·exact⟨x,m,.inr ⟨hmm,rfl,rfl⟩,by omega,by omega,by omega,by omega,by omega⟩
 rcases hs0 with⟨hmm,hs0,hr0⟩|⟨hmm,hs0,hr0⟩
 ·have e2:decide ((mid:Int)<(m:Int))=true:=decide_eq_true (by omega)
  have v5:=wsub (x:=mid+m) (y:=y) (by omega) (by omega)
  rw[hs0]at v5
  (repeat' (first|simp only[EVz,seval,↓reduceIte,EV6,EV7,w0,w1,e0,e1,e2,v1,v2,v3,v4,v5,v6]|(refine ek rfl ?_)))
  refine bv (ι:=Nat×Nat) (λp=>s0<=p.1/\p.1<=p.2/\p.2<=r0) (λp=>p.2-p.1) (λp=>[(0,rawS b L.length cap),(1,.int .i64 x),(2,.int .i64 m),(3,.int .i64 y),(4,.sc f),(18,.int .i64 mid),(19,.int .i64 (mid+m:Nat)),(20,.int .i64 p.1),(21,.int .i64 p.2),(22,.int .i64 (mid+m-1:Nat))]) (λ_=>[(b,.cells 100 (L.flatten++pad))]) (s0,r0) ⟨by simp only;omega,by simp only;omega,by simp only;omega⟩ (by subst hs0 hr0;exact Weak.rfl' _ _) ?_
  rintro⟨i,j⟩ ⟨hi,hij,hj⟩
  simp only at hi hij hj ⊢
  by_cases hlt:i<j
  ·have e3:decide ((i:Int)<(j:Int))=true:=decide_eq_true (by omega)
   obtain⟨g,hh⟩:∃g,(i+j) / 2=g:=⟨_,rfl⟩
   have u1:=wadd (x:=i) (y:=j) (by omega) (by omega)
   have u2:IntKind.u64.wrap (((i+j:Nat):Int))=((i+j:Nat):Int):=cu64 (by omega) (by omega)
   have u3:IntKind.i64.wrap (((i+j:Nat):Int) / 2)=(g:Int):=by rw[fD,hh,av (by omega) (by omega)]
   have u4:IntKind.i64.wrap ((g:Int)+1)=((g+1:Nat):Int):=by rw[av (by omega) (by omega)];omega
   have u5:=wsub (x:=mid+m-1) (y:=g) (by omega) (by omega)
   obtain⟨X,Y,k,hX,hY,⟨a1,a2,a3,a4,a5⟩,⟨c1,c2,c3,c4,c5⟩,m1,m2,hk⟩:=hcmp hL (i:=mid+m-1-g) (j:=g) (by omega) (by omega)
   rw[hX]at a1;rw[hY]at c1
   (repeat' (first|(with_reducible (refine ab (λh=>?_) (λh=>?_))<;>(try simp only[DZ]at h))|(with_reducible refine AI (by omega) ?_)|simp only[EVz,seval,↓reduceIte,EV6,EV7,e3,u1,u2,u3,u4,u5,a1,c1,Int.toNat_natCast]|(with_reducible first|refine ae ?_ ?_|refine af ?_)|(refine ek rfl ?_)|(refine aD hk ?_)))
   all_goals first|exact⟨(g+1,j),⟨by simp only;omega,by simp only;omega,by simp only;omega⟩,by simp only;omega,Weak.rfl' _ _⟩|exact⟨(i,g),⟨by simp only;omega,by simp only;omega,by simp only;omega⟩,by simp only;omega,Weak.rfl' _ _⟩
  ·have e3:decide ((i:Int)<(j:Int))=false:=decide_eq_false (by omega)
   have u5:=wsub (x:=mid+m) (y:=i) (by omega) (by omega)
   (repeat' (first|(with_reducible (first|refine ab (λh=>?_) (λh=>?_)|refine ai (λh=>?_) (λh=>?_))<;>(try simp only[DZ]at h))|simp only[EVz,seval,↓reduceIte,EV6,EV7,e3,u5]|(refine cy (hsw' _ (by assumption) i m (mid+m-i) (by omega) (by omega) (by omega)) (λN hN=>?_))|(refine cy (hih _ (by assumption) x i mid (by omega) (by omega) (by omega) (by omega)) (λN hN=>?_))|(refine cy (hih _ (by assumption) mid (mid+m-i) y (by omega) (by omega) (by omega) (by omega)) (λN hN=>?_))|(exfalso;omega)))
   all_goals exact retI ⟨rfl,_,by assumption,rfl⟩
 ·have e2:decide ((mid:Int)<(m:Int))=false:=decide_eq_false (by omega)
  have v5:=v4
  (repeat' (first|simp only[EVz,seval,↓reduceIte,EV6,EV7,w0,w1,e0,e1,e2,v1,v2,v3,v4,v5,v6]|(refine ek rfl ?_)))
  refine bv (ι:=Nat×Nat) (λp=>s0<=p.1/\p.1<=p.2/\p.2<=r0) (λp=>p.2-p.1) (λp=>[(0,rawS b L.length cap),(1,.int .i64 x),(2,.int .i64 m),(3,.int .i64 y),(4,.sc f),(18,.int .i64 mid),(19,.int .i64 (mid+m:Nat)),(20,.int .i64 p.1),(21,.int .i64 p.2),(22,.int .i64 (mid+m-1:Nat))]) (λ_=>[(b,.cells 100 (L.flatten++pad))]) (s0,r0) ⟨by simp only;omega,by simp only;omega,by simp only;omega⟩ (by subst hs0 hr0;exact Weak.rfl' _ _) ?_
  rintro⟨i,j⟩ ⟨hi,hij,hj⟩
  simp only at hi hij hj ⊢
  by_cases hlt:i<j
  ·have e3:decide ((i:Int)<(j:Int))=true:=decide_eq_true (by omega)
   obtain⟨g,hh⟩:∃g,(i+j) / 2=g:=⟨_,rfl⟩
   have u1:=wadd (x:=i) (y:=j) (by omega) (by omega)
   have u2:IntKind.u64.wrap (((i+j:Nat):Int))=((i+j:Nat):Int):=cu64 (by omega) (by omega)
   have u3:IntKind.i64.wrap (((i+j:Nat):Int) / 2)=(g:Int):=by rw[fD,hh,av (by omega) (by omega)]
   have u4:IntKind.i64.wrap ((g:Int)+1)=((g+1:Nat):Int):=by rw[av (by omega) (by omega)];omega
   have u5:=wsub (x:=mid+m-1) (y:=g) (by omega) (by omega)
   obtain⟨X,Y,k,hX,hY,⟨a1,a2,a3,a4,a5⟩,⟨c1,c2,c3,c4,c5⟩,m1,m2,hk⟩:=hcmp hL (i:=mid+m-1-g) (j:=g) (by omega) (by omega)
   rw[hX]at a1;rw[hY]at c1
   (repeat' (first|(with_reducible (refine ab (λh=>?_) (λh=>?_))<;>(try simp only[DZ]at h))|(with_reducible refine AI (by omega) ?_)|simp only[EVz,seval,↓reduceIte,EV6,EV7,e3,u1,u2,u3,u4,u5,a1,c1,Int.toNat_natCast]|(with_reducible first|refine ae ?_ ?_|refine af ?_)|(refine ek rfl ?_)|(refine aD hk ?_)))
   all_goals first|exact⟨(g+1,j),⟨by simp only;omega,by simp only;omega,by simp only;omega⟩,by simp only;omega,Weak.rfl' _ _⟩|exact⟨(i,g),⟨by simp only;omega,by simp only;omega,by simp only;omega⟩,by simp only;omega,Weak.rfl' _ _⟩
  ·have e3:decide ((i:Int)<(j:Int))=false:=decide_eq_false (by omega)
   have u5:=wsub (x:=mid+m) (y:=i) (by omega) (by omega)
   (repeat' (first|(with_reducible (first|refine ab (λh=>?_) (λh=>?_)|refine ai (λh=>?_) (λh=>?_))<;>(try simp only[DZ]at h))|simp only[EVz,seval,↓reduceIte,EV6,EV7,e3,u5]|(refine cy (hsw' _ (by assumption) i m (mid+m-i) (by omega) (by omega) (by omega)) (λN hN=>?_))|(refine cy (hih _ (by assumption) x i mid (by omega) (by omega) (by omega) (by omega)) (λN hN=>?_))|(refine cy (hih _ (by assumption) mid (mid+m-i) y (by omega) (by omega) (by omega) (by omega)) (λN hN=>?_))|(exfalso;omega)))
   all_goals exact retI ⟨rfl,_,by assumption,rfl⟩
end
section
variable (G:Glob)
set_option maxRecDepth 8000 in
set_option maxHeartbeats 16000000 in
theorem f263 (b cap:Nat) (L:List (List AV)) (pad:List AV) (h7:∀r∈L,r.length=7) (hn:L.length<1000000) (f:Value) (hf:CmpF G L f):
  aj G Tryz.prog 263 [rawS b L.length cap,.int .i64 L.length,.sc f] [(b,.cells 100 (L.flatten++pad))] (iK b L pad):=by
 have hle:∀{M},Like L M->M.length=L.length:=λhM=>hM.1
 have hin:∀(M:List (List AV)) (hM:Like L M) (p q:Nat),p<=q->q<=L.length->aj G Tryz.prog 307 [rawS b L.length cap,.int .i64 p,.int .i64 q,.sc f] [(b,.cells 100 (M.flatten++pad))] (iK b L pad):=λM hM p q h1 h2=>by
  have:=f307 G b cap L M pad h7 hM (by rw[hle hM];exact hn) p q h1 (by rw[hle hM];exact h2) f hf
  rwa [hle hM]at this
 have hsm:∀(M:List (List AV)) (hM:Like L M) (p q r:Nat),p<q->q<r->r<=L.length->aj G Tryz.prog 308 [rawS b L.length cap,.int .i64 p,.int .i64 q,.int .i64 r,.sc f] [(b,.cells 100 (M.flatten++pad))] (iK b L pad):=λM hM p q r h1 h2 h3=>by
  have:=f308 G b cap L pad h7 hn f hf (r-p) M hM p q r rfl h1 h2 (by rw[hle hM];exact h3)
  rwa [hle hM]at this
 refine aj.w c263 ?_
 unfold s263 r263
 (repeat' (simp only[EVz,seval,↓reduceIte,EV6,EV7]))
 refine bv (ι:=Nat×List (List AV)) (λp=>p.1<=L.length/\Like L p.2) (λp=>L.length+20-p.1) (λp=>[(0,rawS b L.length cap),(1,.int .i64 L.length),(2,.sc f),(6,.int .i64 20),(7,.int .i64 p.1),(8,.int .i64 ((p.1+20:Nat):Int))]) (λp=>[(b,.cells 100 (p.2.flatten++pad))]) (0,L) ⟨by simp only;omega,Like.rfl' L⟩ (Weak.rfl' _ _) ?_
 rintro⟨i,M⟩ ⟨hi,hM⟩
 simp only at hi hM ⊢
 by_cases hlt:i+20<=L.length
 ·have e0:decide (((i+20:Nat):Int)<=(L.length:Int))=true:=decide_eq_true (by omega)
  have v1:IntKind.i64.wrap (((i+20:Nat):Int)+20)=((i+20+20:Nat):Int):=by rw[av (by omega) (by omega)];omega
  have hI:=hin M hM i (i+20) (by omega) (by omega)
  (repeat' (first|simp only[EVz,seval,↓reduceIte,EV6,EV7,e0,v1]|(refine cy hI (λN hN=>?_))))
  all_goals exact⟨(i+20,N),⟨by simp only;omega,hN⟩,by simp only;omega,Weak.of ⟨AVle.rfl' _,AVle.rfl' _,AVle.rfl' _,AVle.rfl' _,AVle.rfl' _,AVle.rfl' _,trivial⟩ (SubN.refl _)⟩
 ·have e0:decide (((i+20:Nat):Int)<=(L.length:Int))=false:=decide_eq_false (by omega)
  have hI:=hin M hM i L.length (by omega) (by omega)
  (repeat' (first|simp only[EVz,seval,↓reduceIte,EV6,EV7,e0]|(refine cy hI (λN hN=>?_))))
  clear hI hM hi hlt e0 M i
  refine bv (ι:=Nat×List (List AV)) (λp=>0<p.1/\p.1<L.length+L.length+21/\Like L p.2) (λp=>L.length+L.length+21-p.1) (λp=>[(0,rawS b L.length cap),(1,.int .i64 L.length),(2,.sc f),(6,.int .i64 p.1)]) (λp=>[(b,.cells 100 (p.2.flatten++pad))]) (20,N) ⟨by simp only;omega,by simp only;omega,hN⟩ (Weak.rfl' _ _) ?_
  clear hN N
  rintro⟨k,M⟩ ⟨hk0,hk,hM⟩
  simp only at hk0 hk hM ⊢
  by_cases hkl:k<L.length
  ·have e1:decide ((k:Int)<(L.length:Int))=true:=decide_eq_true (by omega)
   have v2:IntKind.i64.wrap (2*(k:Int))=((2*k:Nat):Int):=by rw[av (by omega) (by omega)];omega
   have v3:IntKind.i64.wrap ((k:Int)*2)=((2*k:Nat):Int):=by rw[av (by omega) (by omega)];omega
   (repeat' (simp only[EVz,seval,↓reduceIte,EV6,EV7,e1,v2]))
   refine bv (ι:=Nat×List (List AV)) (λp=>p.1<=L.length/\Like L p.2) (λp=>L.length+2*k-p.1) (λp=>[(0,rawS b L.length cap),(1,.int .i64 L.length),(2,.sc f),(6,.int .i64 k),(7,.int .i64 p.1),(8,.int .i64 ((p.1+2*k:Nat):Int))]) (λp=>[(b,.cells 100 (p.2.flatten++pad))]) (0,M) ⟨by simp only;omega,hM⟩ (by simp only[Nat.zero_add];exact Weak.rfl' _ _) ?_
   clear hM M
   rintro⟨i,M⟩ ⟨hi,hM⟩
   simp only at hi hM ⊢
   have v5:=wadd (x:=i) (y:=k) (by omega) (by omega)
   by_cases hlt:i+2*k<=L.length
   ·have e2:decide (((i+2*k:Nat):Int)<=(L.length:Int))=true:=decide_eq_true (by omega)
    have v4:=wadd (x:=i+2*k) (y:=2*k) (by omega) (by omega)
    have hS:=hsm M hM i (i+k) (i+2*k) (by omega) (by omega) (by omega)
    (repeat' (first|simp only[EVz,seval,↓reduceIte,EV6,EV7,e2,v2,v4,v5]|(refine cy hS (λN hN=>?_))))
    all_goals exact⟨(i+2*k,N),⟨by simp only;omega,hN⟩,by simp only;omega,Weak.of ⟨AVle.rfl' _,AVle.rfl' _,AVle.rfl' _,AVle.rfl' _,AVle.rfl' _,AVle.rfl' _,trivial⟩ (SubN.refl _)⟩
   ·have e2:decide (((i+2*k:Nat):Int)<=(L.length:Int))=false:=decide_eq_false (by omega)
    by_cases hmn:i+k<L.length
    ·have e3:decide (((i+k:Nat):Int)<(L.length:Int))=true:=decide_eq_true (by omega)
     have hS:=hsm M hM i (i+k) L.length (by omega) (by omega) (by omega)
     (repeat' (first|simp only[EVz,seval,↓reduceIte,EV6,EV7,e2,e3,v3,v5]|(refine cy hS (λN hN=>?_))))
     all_goals exact⟨(2*k,N),⟨by simp only;omega,by simp only;omega,hN⟩,by simp only;omega,Weak.rfl' _ _⟩
    ·have e3:decide (((i+k:Nat):Int)<(L.length:Int))=false:=decide_eq_false (by omega)
     (repeat' (simp only[EVz,seval,↓reduceIte,EV6,EV7,e2,e3,v3,v5]))
     all_goals exact⟨(2*k,M),⟨by simp only;omega,by simp only;omega,hM⟩,by simp only;omega,Weak.rfl' _ _⟩
  ·have e1:decide ((k:Int)<(L.length:Int))=false:=decide_eq_false (by omega)
   (repeat' (simp only[EVz,seval,↓reduceIte,EV6,EV7,e1]))
   all_goals exact retI ⟨rfl,M,hM,rfl⟩
theorem f216 (b cap:Nat) (L:List (List AV)) (pad:List AV) (E:∀r∈L,r.length=7) (M:L.length<1000000) (f:Value) (J:CmpF G L f):
  aj G Tryz.prog 216 [rawS b L.length cap,.sc f] [(b,.cells 100 (L.flatten++pad))] (iK b L pad):=by
 have I:=f263 G b cap L pad E M f J
 refine aj.w c216 ?_
 unfold s216 r216
 (repeat' (first|simp only[EVz,seval,↓reduceIte,EV6,EV7]|(refine cy I (λN F=>?_))))
 all_goals exact retI ⟨rfl,N,F,rfl⟩
end
theorem bf {G:Glob} {P:Program} {k:FuncId} {args:List AV} {σ:Store} {K:AV->Store->Prop} {t:Tag K} {Q:AV->Prop}
  (h:aj G P k args [] (λr σ'=>σ'=[]/\Q r)) (E:∀r,Q r->K r σ):CALL G P (.func (.func k) #[] #[]) args σ K t:=
 aP [] σ h.v (aA.rfl' _) (SubN.refl _) (by rintro r _ ⟨rfl,F⟩;exact E r F)
def cmpI (a b:Int):Int:=if a<b then -1 else if b<a then 1 else 0
def orI:List Int->Int
 |[]=>0
 |k::l=>if k≠0 then k else orI l
def spc (p:Int×Int):List AV:=[.int .i64 p.1,.int .i64 p.2]
def drow (k:Int):List AV:=[.int .i64 k]
section
variable (G:Glob)
theorem f264 (a:Int):Pure G Tryz.prog 264 [.int .i64 a] (.bool false):=by
 have e:decide (a≠a)=false:=decide_eq_false (λh=>h rfl)
 refine Pure.w c264 λR E=>?_
 unfold s264 r264
 (repeat' (simp only[EVz,seval,↓reduceIte,EV6,EV7,e]))
 all_goals exact RQ E
theorem f219 (a b:Int):Pure G Tryz.prog 219 [.int .i64 a,.int .i64 b] (.int .i64 (cmpI a b)):=by
 have F:=f264 G
 refine Pure.w c219 λR E=>?_
 unfold s219 r219
 unfold cmpI at E
 (repeat' (first|(with_reducible (refine ab (λh=>?_) (λh=>?_))<;>(try simp only[DZ]at h))|(with_reducible refine aa (F _) ?_)|simp only[EVz,seval,↓reduceIte,EV6,EV7]))
 all_goals(refine RET.eq E ?_;first|(rw[if_pos (by assumption)];done)|(rw[if_neg (by omega),if_pos (by assumption)];done)|(rw[if_neg (by omega),if_neg (by omega)]))
theorem f218 (l:List Int) (N:l.length<1000000):Pure G Tryz.prog 218 [.lst 1 (l.map drow)] (.int .i64 (orI l)):=by
 refine Pure.w c218 λR I=>?_
 unfold s218 r218
 (repeat' (first|(with_reducible (refine ab (λh=>?_) (λh=>?_))<;>(try simp only[DZ]at h))|simp only[EVz,seval,↓reduceIte,EV6,EV7,drow,F.yes,F.le0,F.lt',F.get,F.row,M]|simp only[EVz,seval,↓reduceIte,EV6,EV7,drow,J]|simp only[EVz,seval,↓reduceIte,EV6,EV7,drow]|(refine am F () ?_ (Weak.rfl' _ _))|(refine ax (l) (λi r (c:Unit)=>orI l=orI r) (λi c=>[(3,.int .i64 0),(6,.lst 1 (l.map drow)),(7,.int .i64 l.length),(8,.int .i64 i)]) (λ_ _=>[]) () (by rfl) (Weak.rfl' _ _) (by omega) (λi x r c E F M=>?_) (λc E J=>?_))))
 all_goals first|(refine RET.eq I ?_;rw[E,orI,if_pos (by assumption)];done)|(rw[E,orI,if_neg (by omega)];done)|(refine RET.eq I ?_;rw[E];rfl)
theorem f227 (p:Int×Int) (d:Int):Pure G Tryz.prog 227 [.agg (spc p),.int .i64 d] (.int .i64 (cmpI p.1 d)):=by
 have E:=f219 G
 refine Pure.w c227 λR F=>?_
 unfold s227 r227
 unfold spc
 (repeat' (first|(with_reducible refine aa (E _ _) ?_)|simp only[EVz,seval,↓reduceIte,EV6,EV7]))
 all_goals exact RQ F
theorem f356 (a b:Bool):Pure G Tryz.prog 356 [.bool a,.bool b] (.bool (a||b)):=by
 refine Pure.w c356 λR E=>?_
 unfold s356 r356
 cases a<;>(repeat' (simp only[EVz,seval,↓reduceIte,EV6,EV7]))<;>exact RQ E
theorem f357 (a b:Bool):Pure G Tryz.prog 357 [.bool a,.bool b] (.bool (a&&b)):=by
 refine Pure.w c357 λR E=>?_
 unfold s357 r357
 cases a<;>(repeat' (simp only[EVz,seval,↓reduceIte,EV6,EV7]))<;>exact RQ E
def Place (n:Nat):AV->Prop:=λr=>∃(i:Nat) (b:Bool),r= .tup [.int .i64 i,.bool b]/\i<=n
set_option maxHeartbeats 4000000 in
theorem f226 (l:List (Int×Int)) (hl:l.length<1000000) (d:Int):
  aj G Tryz.prog 226 [.lst 2 (l.map spc),.int .i64 d,.sc (.func (.func 227) #[] #[])] [] (λr σ'=>σ'=[]/\Place l.length r):=by
 have Y:=λp=>f227 G p d
 refine aj.w c226 ?_
 unfold s226 r226
 have E:(l.map spc).length=l.length:=length_map _
 (repeat' (simp only[EVz,seval,↓reduceIte,EV6,EV7,E]))
 refine bv (ι:=Nat×Nat) (λp=>p.1<=p.2/\p.2<=l.length) (λp=>p.2-p.1) (λp=>[(0,.lst 2 (l.map spc)),(1,.int .i64 d),(2,.sc (.func (.func 227) #[] #[])),(8,.int .i64 l.length),(9,.int .i64 p.1),(10,.int .i64 p.2)]) (λ_=>[]) (0,l.length) ⟨by simp only;omega,by simp only;omega⟩ (Weak.rfl' _ _) ?_
 rintro⟨i,j⟩ ⟨T,hj⟩
 simp only at T hj ⊢
 have F:∀k,k<l.length->∃p,(l.map spc).getD k []=spc p:=λk I=>⟨l[k],by rw[getD_eq_getElem?_getD,getElem?_map,getElem?_eq_getElem I];rfl⟩
 by_cases ac:i<j
 ·have M:decide ((i:Int)<(j:Int))=true:=decide_eq_true (by omega)
  obtain⟨g,O⟩:∃g,(i+j) / 2=g:=⟨_,rfl⟩
  have v1:=wadd (x:=i) (y:=j) (by omega) (by omega)
  have v2:IntKind.u64.wrap (((i+j:Nat):Int))=((i+j:Nat):Int):=by simp[IntKind.wrap,IntKind.bits,IntKind.signed];omega
  have v3:IntKind.i64.wrap (((i+j:Nat):Int) / 2)=(g:Int):=by rw[show(((i+j:Nat):Int) / 2)=(((i+j) / 2:Nat):Int)by omega,O,av (by omega) (by omega)]
  have v4:IntKind.i64.wrap ((g:Int)+1)=((g+1:Nat):Int):=by rw[av (by omega) (by omega)];omega
  obtain⟨p,J⟩:=F g (by omega)
  have I:=Y p
  simp only[spc]at I
  have Z:(g:Int)<(l.length:Int):=by omega
  have X:((l.map spc).getD g []).length=2:=by rw[J];rfl
  (repeat' (first|(with_reducible (refine ab (λh=>?_) (λh=>?_))<;>(try simp only[DZ]at h))|(with_reducible first|refine AI (by omega) ?_|refine aa I ?_)|simp only[EVz,seval,↓reduceIte,EV6,EV7,M,v1,v2,v3,v4,E,J,spc,Int.toNat_natCast]|(refine ek rfl ?_)))
  all_goals first|exact⟨(g+1,j),⟨by simp only;omega,by simp only;omega⟩,by simp only;omega,Weak.rfl' _ _⟩|exact⟨(i,g),⟨by simp only;omega,by simp only;omega⟩,by simp only;omega,Weak.rfl' _ _⟩
 ·have M:decide ((i:Int)<(j:Int))=false:=decide_eq_false (by omega)
  by_cases V:i<l.length
  ·have N:decide ((i:Int)<(l.length:Int))=true:=decide_eq_true (by omega)
   obtain⟨p,J⟩:=F i V
   have I:=Y p
   simp only[spc]at I
   have X:((l.map spc).getD i []).length=2:=by rw[J];rfl
   (repeat' (first|(with_reducible first|refine AI (by omega) ?_|refine aa I ?_)|simp only[EVz,seval,↓reduceIte,EV6,EV7,M,N,E,J,spc,Int.toNat_natCast]))
   all_goals exact retI ⟨rfl,i,_,rfl,by omega⟩
  ·have N:decide ((i:Int)<(l.length:Int))=false:=decide_eq_false (by omega)
   (repeat' (simp only[EVz,seval,↓reduceIte,EV6,EV7,M,N,E]))
   all_goals exact retI ⟨rfl,i,_,rfl,by omega⟩
theorem f182 (l:List (Int×Int)) (N:l.length<1000000) (d:Int):aj G Tryz.prog 182 [.lst 2 (l.map spc),.int .i64 d] [] (λr σ'=>σ'=[]/\∃b,r= .bool b):=by
 have I:=f226 G l N d
 have F:(l.map spc).length=l.length:=length_map _
 refine aj.w c182 ?_
 unfold s182 r182
 (try simp only[EVz,seval,↓reduceIte,EV6,EV7])
 refine bf I ?_
 rintro _ ⟨i,b,rfl,hi⟩
 cases b with
 |true=>
  (repeat' (simp only[EVz,seval,↓reduceIte,EV6,EV7]))
  all_goals exact retI ⟨rfl,_,rfl⟩
 |false=>
  by_cases T:0<i
  ·have E:decide ((0:Int)<(i:Int))=true:=decide_eq_true (by omega)
   have O:=kC (x:=i) (by omega) (by omega)
   have J:(l.map spc).getD (i-1) []=spc (l[i-1]'(by omega)):=by rw[getD_eq_getElem?_getD,getElem?_map,getElem?_eq_getElem (by omega)];rfl
   have M:((i-1:Nat):Int)<(l.length:Int):=by omega
   (repeat' (first|(with_reducible refine AI (by omega) ?_)|simp only[EVz,seval,↓reduceIte,EV6,EV7,E,O,F,J,spc,Int.toNat_natCast]))
   all_goals exact retI ⟨rfl,_,rfl⟩
  ·have E:decide ((0:Int)<(i:Int))=false:=decide_eq_false (by omega)
   (repeat' (simp only[EVz,seval,↓reduceIte,EV6,EV7,E]))
   all_goals exact retI ⟨rfl,_,rfl⟩
end
end Go.Av
