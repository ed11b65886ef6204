/-
  SYNTAX, runs 0: what the runs of the example lean on: the library's contracts, the variables, facts out of other runs.
-/
import Derived.Test.YtepngejmjdgccaaGreatDoorXK4
import Derived.Test.YtepngejmjdgccaaGreatDoorXK5
import Derived.Test.YtepngejmjdgccaaGreatDoorXL9toXL10
import Derived.Test.YtepngejmjdgccaaGreatDoorXGlobtoXDat
import Derived.Lib.Join
namespace Go.Av
open Go Go.RowKit Go.Proofs
set_option linter.unusedSimpArgs false
set_option linter.unusedVariables false
/-! ### facts -/
section
variable {G:Glob} {P:Program}
theorem Pure.le_args {k:Nat} {args args0:List AV} {r:AV} (h:Pure G P k args0 r) (hl:leL args args0=true) (ρ:Ren):Pure G P k (renL ρ args) r:=
 ⟨h.1,λτ w vs hS hA=>h.2 τ w vs hS (leL_repL _ _ hl hA)⟩
noncomputable def factE:List (Nat×List AV×AV)->Nat->List AV->Option AV
 |[],_,_=>none
 |p::l,k,args=>if p.1=k then (match leL args p.2.1 with
  |true=>some p.2.2
  |false=>factE l k args)else factE l k args
theorem factE_ok:∀{F:List (Nat×List AV×AV)},(∀p∈F,Pure G P p.1 p.2.1 p.2.2)->∀{k:Nat} {args:List AV} {r:AV},factE F k args=some r->∀ρ:Ren,Pure G P k (renL ρ args) r
 |[],_,k,args,r,h,ρ=>by cases h
 |p::l,hF,k,args,r,h,ρ=>by
  simp only[factE]at h
  split at h
  ·rename_i hk
   subst hk
   split at h
   ·rename_i hl
    cases h
    exact(hF p (by simp)).le_args hl ρ
   ·exact factE_ok (λq hq=>hF q (by simp[hq])) h ρ
  ·exact factE_ok (λq hq=>hF q (by simp[hq])) h ρ
end
noncomputable def strsE:List (List AV)->Option (List (List UInt8))
 |[]=>some []
 |[.str s]::rs=>match strsE rs with
  |some l=>some (s::l)
  |none=>none
 |_::_=>none
theorem strsE_ok:∀{rs:List (List AV)} {l:List (List UInt8)},strsE rs=some l->rs=l.map srow
 |[],l,h=>by cases h;rfl
 |[.str s]::rs,l,h=>by
  simp only[strsE]at h
  split at h
  ·rename_i hl;cases h;rw[strsE_ok hl];rfl
  ·cases h
 |[]::rs,l,h=>by simp[strsE]at h
theorem srow_ren (ρ:Ren) (l:List (List UInt8)):renR ρ (l.map srow)=l.map srow:=by
 rw[renR_map,List.map_map]
 exact List.map_congr_left λs _=>by simp[srow,renL,AV.ren]
/-! ### the library -/
theorem jrows_cells {τ:Store} {w:World} {b:Nat}:∀(xs:List (List UInt8)) (i:Nat),RepRows τ w ⟨b,0,none⟩ 1 i (xs.map srow)->∀(j:Nat) x,xs[j]? =some x->w.cell? ⟨b,i+j,none⟩=some (.string ⟨⟨x⟩⟩)
 |[],i,_,j,x,hx=>by simp at hx
 |y::xs,i,h,j,x,hx=>by
  simp only[srow,List.map_cons,RepRows,RepAt,Rep]at h
  obtain⟨_,⟨⟨u,hF,_,rfl⟩,_⟩,hr⟩:=h
  cases j with
  |zero=>
   simp at hx
   subst hx
   have e:(⟨b,0,none⟩:Addr).add (i*1)=⟨b,i,none⟩:=by unfold Addr.add;by_cases hi:i=0<;>simp[hi]
   have:=hF.1
   rw[e]at this
   exact this
  |succ j=>
   have:=jrows_cells xs (i+1) hr j x (by simpa using hx)
   rw[show i+(j+1)=i+1+j by omega]
   exact this
section
variable (G:Glob)
theorem f60 (s:List UInt8) (c:UInt8):Pure G Tryz.prog 60 [.str s,.int .u8 c.toNat] (.int .i64 (Lib.indexByte s c)):=by
 refine Pure.of_calls Tryz.func60 (by kernel_rfl) (by kernel_rfl) λτ w vs hS hA=>?_
 obtain⟨u,v,rfl,h1,h2⟩:=vs_two hA
 simp only[Rep]at h1 h2
 subst h1 h2
 refine⟨.int .i64 (Lib.indexByte s c),λ_ _=>by simp only[Rep],?_⟩
 refine(Tryz.strings_IndexByte ⟨⟨s⟩⟩ c.toNat w).mono ?_
 rintro e w' ⟨rfl,rfl⟩
 exact⟨by simp,Below.refl _ _⟩
theorem f174 (g:Option Nat) (xs:List (List UInt8)) (sep:List UInt8) (hn:xs.length<=1000000) (hl:(Lib.join xs sep).length<=140737488355328):Pure G Tryz.prog 174 [.own g 9 1 (xs.map srow),.str sep] (.str (Lib.join xs sep)):=by
 refine Pure.of_calls Tryz.func174 (by kernel_rfl) (by kernel_rfl) λτ w vs hS hA=>?_
 obtain⟨u,v,rfl,h1,h2⟩:=vs_two hA
 simp only[Rep]at h2
 subst h2
 refine⟨.string ⟨⟨Lib.join xs sep⟩⟩,λ_ _=>by simp only[Rep],?_⟩
 have none_:∀a c,xs=[]->Calls Tryz.prog 174 #[.slice a 0 c,.string ⟨⟨sep⟩⟩] w λe w'=>e= .returned (.string ⟨⟨Lib.join xs sep⟩⟩)/\Below w.heap.size w w':=by
  rintro a c rfl
  refine(Tryz.strings_Join_none a c ⟨⟨sep⟩⟩ w).mono ?_
  rintro e w' ⟨rfl,rfl⟩
  exact⟨rfl,Below.refl _ _⟩
 cases g with
 |none=>
  simp only[Rep]at h1
  obtain⟨rfl,hx⟩:=h1
  exact none_ _ _ (by simpa using hx)
 |some b=>
  simp only[Rep]at h1
  obtain⟨cap,rfl,hc,hm,hsh,hr⟩:=h1
  rw[List.length_map]at hc ⊢
  by_cases hx:xs=[]
  ·subst hx
   exact none_ _ _ rfl
  ·have e1:(xs.map (λx=>(⟨⟨x⟩⟩:ByteArray))).map (·.data.toList)=xs:=by rw[List.map_map];exact List.map_id xs
   have hb:b<w.heap.size:=by
    rcases Nat.lt_or_ge b w.heap.size with h|h
    ·exact h
    ·have:w.heap[b]? =none:=Array.getElem?_eq_none h
     simp[World.shape?,this]at hsh
   have hcells:∀(j:Nat) x,(xs.map (λx=>(⟨⟨x⟩⟩:ByteArray)))[j]? =some x->w.cell? ⟨b,0+j,none⟩=some (.string x):=by
    intro j x hj
    simp only[List.getElem?_map,Option.map_eq_some_iff]at hj
    obtain⟨y,hy,rfl⟩:=hj
    exact jrows_cells xs 0 hr j y hy
   have h:=Tryz.strings_Join b 0 cap (xs.map (λx=>(⟨⟨x⟩⟩:ByteArray))) ⟨⟨sep⟩⟩ w hcells hb (by simp;omega) (by simpa using hc) (by rw[e1];exact hl)
   rw[e1,List.length_map]at h
   exact h
noncomputable def libE (k:Nat) (args:List AV):Option AV:=
 if k=60 then (match args with
  |[.str s,.int .u8 n]=>if 0<=n/\n<256 then some (.int .i64 (Lib.indexByte s (UInt8.ofNat n.toNat)))else none
  |_=>none)
 else if k=117 then (match args with
  |[.str s]=>some (.bool (labelOk s))
  |_=>none)
 else if k=174 then (match args with
  |[.own _ e 1 rows,.str sep]=>if e=9 then (match strsE rows with
   |some xs=>if xs.length<=1000000/\(Lib.join xs sep).length<=140737488355328 then some (.str (Lib.join xs sep))else none
   |none=>none)else none
  |_=>none)
 else none
theorem libE_ok {k:Nat} {args:List AV} {r:AV} (h:libE k args=some r) (ρ:Ren):Pure G Tryz.prog k (renL ρ args) r:=by
 unfold libE at h
 split at h
 ·rename_i hk
  subst hk
  split at h
  ·rename_i s n
   split at h
   ·rename_i hn
    cases h
    have:=f60 G s (UInt8.ofNat n.toNat)
    have e:((UInt8.ofNat n.toNat).toNat:Int)=n:=by rw[UInt8.toNat_ofNat'];omega
    rw[e]at this
    simpa only[renL,AV.ren]using this
   ·cases h
  ·cases h
 split at h
 ·rename_i hk
  subst hk
  split at h
  ·rename_i s
   cases h
   simpa only[renL,AV.ren]using f117 G s
  ·cases h
 split at h
 ·rename_i hk
  subst hk
  split at h
  ·rename_i g e rows sep
   split at h
   ·rename_i he
    subst he
    split at h
    ·rename_i xs hx
     split at h
     ·rename_i hn
      cases h
      rw[strsE_ok hx]
      simp only[renL,AV.ren,srow_ren]
      exact f174 G (g.bind ρ) xs sep hn.1 hn.2
     ·cases h
    ·cases h
   ·cases h
  ·cases h
 ·cases h
end
/-! ### the variables -/
def synNames:List (List UInt8):=[[105,110,115,101,114,116],[114,101,112,101,97,108],[119,111,114,100,115],[112,117,116],[104,101,97,100,105,110,103],[114,101,108,97,98,101,108],[109,111,118,101],[99,111,109,109,101,110,99,101],[101,120,112,105,114,101],[114,101,118,105,118,101],[104,97,112,112,101,110],[99,111,114,114,101,99,116]]
theorem runE_ok {G:Glob} {F:List (Nat×List AV×AV)} (hF:∀p∈F,Pure G Tryz.prog p.1 p.2.1 p.2.2) {k:Nat} {args:List AV} {r:AV} (h:orE (factE F k args) (libE k args)=some r) (ρ:Ren):Pure G Tryz.prog k (renL ρ args) r:=by
 rcases orE_ok h with h|h
 ·exact factE_ok hF h ρ
 ·exact libE_ok G h ρ
noncomputable def runX (G:Glob) (F:List (Nat×List AV×AV)) (hF:∀p∈F,Pure G Tryz.prog p.1 p.2.1 p.2.2):Ext G Tryz.prog:=Ext.of (λk args=>orE (factE F k args) (libE k args)) λh ρ=>runE_ok hF h ρ
end Go.Av
