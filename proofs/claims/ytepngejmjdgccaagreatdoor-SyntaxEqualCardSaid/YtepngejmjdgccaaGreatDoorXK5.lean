/-
  CONCRETE RUNS, 5: a function on given arguments gives the given result.
-/
import Derived.Test.YtepngejmjdgccaaGreatDoorXK3
namespace Go.Av
open Go Go.RowKit
set_option linter.unusedSimpArgs false
set_option linter.unusedVariables false
section
def scB:Value->Value->Bool
 | .nilFunc,.nilFunc=>true
 | .nilIface,.nilIface=>true
 | .pointer none,.pointer none=>true
 | .map none,.map none=>true
 |_,_=>false
mutual
def leB:AV->AV->Bool
 | .bool a,.bool b=>decide (a=b)
 | .int k n,.int k' m=>decide (k=k'/\n=m)
 | .str a,.str b=>decide (a=b)
 | .nil,.nil=>true
 | .nil,.lst _ []=>true
 | .lst sz r,.lst sz' r'=>decide (sz=sz')&&leR r r'
 | .own _ _ sz r,.lst sz' r'=>decide (sz=sz')&&leR r r'
 | .ref xs,.ref ys=>leL xs ys
 | .agg xs,.agg ys=>leL xs ys
 | .tup xs,.tup ys=>leL xs ys
 | .sc u,.sc v=>scB u v
 |_,_=>false
def leL:List AV->List AV->Bool
 |[],[]=>true
 |x::xs,y::ys=>leB x y&&leL xs ys
 |_,_=>false
def leR:List (List AV)->List (List AV)->Bool
 |[],[]=>true
 |x::xs,y::ys=>leL x y&&leR xs ys
 |_,_=>false
end
theorem leL_len:∀{xs ys:List AV},leL xs ys=true->xs.length=ys.length
 |[],[],_=>rfl
 |x::xs,y::ys,h=>by
  simp only[leL,Bool.and_eq_true]at h
  simp[leL_len h.2]
 |[],_::_,h=>by simp[leL]at h
 |_::_,[],h=>by simp[leL]at h
theorem leR_len:∀{xs ys:List (List AV)},leR xs ys=true->xs.length=ys.length
 |[],[],_=>rfl
 |x::xs,y::ys,h=>by
  simp only[leR,Bool.and_eq_true]at h
  simp[leR_len h.2]
 |[],_::_,h=>by simp[leR]at h
 |_::_,[],h=>by simp[leR]at h
section
variable {ρ:Ren} {σ:Store} {w:World}
theorem lst_rep {a:Option Nat} {sz:Nat} {r r':List (List AV)} {e:TypeId} (hl:r.length=r'.length) (h:∀ad,RepRows σ w ad sz 0 (renR ρ r)->RepRows σ w ad sz 0 r'):
  (∀{u:Value},Rep σ w (.lst sz (renR ρ r)) u->Rep σ w (.lst sz r') u)/\∀{u:Value},Rep σ w (.own a e sz (renR ρ r)) u->Rep σ w (.lst sz r') u:=by
 have key:∀{u:Value},Rep σ w (.lst sz (renR ρ r)) u->Rep σ w (.lst sz r') u:=by
  intro u hu
  simp only[Rep]at hu ⊢
  rcases hu with⟨h1,h2⟩|⟨ad,cap,h1,h2,h3,h4⟩
  ·refine .inl ⟨h1,?_⟩
   have:=congrArg List.length h2
   rw[renR_len,hl]at this
   exact List.eq_nil_of_length_eq_zero this
  ·rw[renR_len,hl]at h1 h2
   exact .inr ⟨ad,cap,h1,h2,h3,h ad h4⟩
 refine⟨key,λ{u} hu=>key ?_⟩
 exact AVle1.rep (x:=.own a e sz (renR ρ r)) (y:=.lst sz (renR ρ r)) (.inr ⟨rfl,rfl⟩) hu
mutual
theorem leB_rep:∀(x y:AV),leB x y=true->∀{u:Value},Rep σ w (x.ren ρ) u->Rep σ w y u
 | .bool a,y,h,u,hu=>by
  cases y with
  |bool b=>simp only[leB,decide_eq_true_eq]at h;subst h;simpa only[AV.ren]using hu
  |_=>simp[leB]at h
 | .int k n,y,h,u,hu=>by
  cases y with
  |int k' m=>simp only[leB,decide_eq_true_eq]at h;obtain⟨rfl,rfl⟩:=h;simpa only[AV.ren]using hu
  |_=>simp[leB]at h
 | .str a,y,h,u,hu=>by
  cases y with
  |str b=>simp only[leB,decide_eq_true_eq]at h;subst h;simpa only[AV.ren]using hu
  |_=>simp[leB]at h
 | .nil,y,h,u,hu=>by
  cases y with
  |nil=>simpa only[AV.ren]using hu
  |lst sz r=>
   cases r with
   |nil=>simp only[AV.ren,Rep]at hu ⊢;exact .inl (by simpa using hu)
   |cons _ _=>simp[leB]at h
  |_=>simp[leB]at h
 | .lst sz r,y,h,u,hu=>by
  cases y with
  |lst sz' r'=>
   simp only[leB,Bool.and_eq_true,decide_eq_true_eq]at h
   obtain⟨rfl,h⟩:=h
   rw[AV.ren]at hu
   exact(lst_rep (a:=none) (e:=0) (leR_len h) λad=>leR_rep r r' h).1 hu
  |_=>simp[leB]at h
 | .own a e sz r,y,h,u,hu=>by
  cases y with
  |lst sz' r'=>
   simp only[leB,Bool.and_eq_true,decide_eq_true_eq]at h
   obtain⟨rfl,h⟩:=h
   rw[AV.ren]at hu
   exact(lst_rep (leR_len h) λad=>leR_rep r r' h).2 hu
  |_=>simp[leB]at h
 | .ref xs,y,h,u,hu=>by
  cases y with
  |ref ys=>
   simp only[leB]at h
   simp only[AV.ren,Rep]at hu ⊢
   obtain⟨a,h1,h2⟩:=hu
   exact⟨a,h1,leL_repAt xs ys h h2⟩
  |_=>simp[leB]at h
 | .agg xs,y,h,u,hu=>by
  cases y with
  |agg ys=>
   simp only[leB]at h
   simp only[AV.ren,Rep]at hu ⊢
   obtain⟨vs,h1,h2,h3⟩:=hu
   exact⟨vs,h1,h2,leL_repL xs ys h h3⟩
  |_=>simp[leB]at h
 | .tup xs,y,h,u,hu=>by
  cases y with
  |tup ys=>
   simp only[leB]at h
   simp only[AV.ren,Rep]at hu ⊢
   obtain⟨vs,h1,h2⟩:=hu
   exact⟨vs,h1,leL_repL xs ys h h2⟩
  |_=>simp[leB]at h
 | .sc v,y,h,u,hu=>by
  cases y with
  |sc v'=>
   simp only[leB]at h
   unfold scB at h
   split at h<;>first
    |(simpa only[AV.ren,renV,Rep]using hu)
    |cases h
  |_=>simp[leB]at h
 | .any,y,h,_,_=>by cases y<;>simp[leB]at h
theorem leL_repL:∀(xs ys:List AV),leL xs ys=true->∀{us:List Value},RepL σ w (renL ρ xs) us->RepL σ w ys us
 |[],[],_,us,hu=>by simpa only[renL]using hu
 |[],_::_,h,_,_=>by simp[leL]at h
 |_::_,[],h,_,_=>by simp[leL]at h
 |x::xs,y::ys,h,us,hu=>by
  simp only[leL,Bool.and_eq_true]at h
  simp only[renL,RepL]at hu ⊢
  obtain⟨u,us',h1,h2,h3⟩:=hu
  exact⟨u,us',h1,leB_rep x y h.1 h2,leL_repL xs ys h.2 h3⟩
theorem leL_repAt:∀(xs ys:List AV),leL xs ys=true->∀{a:Addr} {i:Nat},RepAt σ w a i (renL ρ xs)->RepAt σ w a i ys
 |[],[],_,a,i,_=>by simp only[RepAt]
 |[],_::_,h,_,_,_=>by simp[leL]at h
 |_::_,[],h,_,_,_=>by simp[leL]at h
 |x::xs,y::ys,h,a,i,hu=>by
  simp only[leL,Bool.and_eq_true]at h
  simp only[renL,RepAt]at hu ⊢
  obtain⟨⟨u,h1,h2,h3⟩,h4⟩:=hu
  exact⟨⟨u,h1,h2,leB_rep x y h.1 h3⟩,leL_repAt xs ys h.2 h4⟩
theorem leR_rep:∀(xs ys:List (List AV)),leR xs ys=true->∀{a:Addr} {sz i:Nat},RepRows σ w a sz i (renR ρ xs)->RepRows σ w a sz i ys
 |[],[],_,a,sz,i,_=>by simp only[RepRows]
 |[],_::_,h,_,_,_,_=>by simp[leR]at h
 |_::_,[],h,_,_,_,_=>by simp[leR]at h
 |x::xs,y::ys,h,a,sz,i,hu=>by
  simp only[leR,Bool.and_eq_true]at h
  simp only[renR,RepRows]at hu ⊢
  obtain⟨h1,h2,h3⟩:=hu
  exact⟨by rw[←h1,renL_len,leL_len h.1],leL_repAt x y h.1 h2,leR_rep xs ys h.2 h3⟩
end
end
section
variable {G:Glob} {P:Program}
theorem Pure.runs (X:Ext G P) (f:Nat) {k:Nat} {args:List AV} {r:AV} (ha:loL 0 args=true) (h:runB X f (.func (.func k) #[] #[]) args [] 0 (λx _ _=>leB x r)=true):Pure G P k args r:=by
 obtain⟨k',first,cap,e,hf⟩:=runB_ok X f _ _ _ _ _ (λ_=>none) h ⟨List.nodup_nil,List.nodup_nil,λp hp=>by cases hp⟩ (by simp[loV]) ha rfl
 simp only[renV,Array.map_empty,Value.func.injEq,Fn.func.injEq]at e
 obtain⟨rfl,rfl,rfl⟩:=e
 rw[renL_lo0 ha]at hf
 have hf:FnSpec G P k ([]++args++[]) [] _:=hf
 rw[List.nil_append,List.append_nil]at hf
 refine⟨hf.1,λτ w vs hS hA=>(hf.2 τ w vs hS hA).mono ?_⟩
 rintro e w' ⟨v,x,σ',he,⟨ρ',r0,σ0,n',g1,g2,g3,q1,q2,g4,rfl,rfl⟩,hS',hE,hR⟩
 have hsub:SubN ([]:Store) (σ0.ren ρ'):=SubN.nil _
 have e2:=Ev.of_sub (σ:=σ0.ren ρ') (σ':=[]) hsub.1 w'
 have h3:=leB_rep _ _ g4 hR
 refine⟨v,r,[],he,⟨rfl,rfl⟩,hS'.subN hsub,hE.trans e2,?_⟩
 exact Rep.ev (σ:=σ0.ren ρ') (σ':=[]) (ρ:=τ) e2 r v h3
end
end
end Go.Av
