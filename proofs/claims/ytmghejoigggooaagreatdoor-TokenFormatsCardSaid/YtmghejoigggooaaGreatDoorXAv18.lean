/-
  ABSTRACT VALUES, 18: a function's walk by rewriting.
-/
import Derived.Test.YtmghejoigggooaaGreatDoorXAv17
namespace Go.Av
open Go Go.RowKit

section
variable {G : Glob} {P : Program} {env : Env} {σ : Store} {R : AV → Store → Prop} {KL : List AV → Prop} {tL : Tag KL}

def RX (ts : List (Nat × Option (Bool × Nat))) (env : Env) (σ : Store) (K : List AV → Prop) (_t : Tag K) : Prop := retX ts env σ K

theorem retQ_ret {ts : List (Nat × Option (Bool × Nat))} : retQ ts R .ret env σ = RX ts env σ (fun xs => RET (oneOrTup xs) σ R) ⟨⟩ := (rfl)
theorem retQ_normal {ts : List (Nat × Option (Bool × Nat))} : retQ ts R .normal env σ = RX ts env σ (fun xs => RET (oneOrTup xs) σ R) ⟨⟩ := (rfl)
theorem RX_nil : RX [] env σ KL tL = KL [] := (rfl)
theorem RX_tmp {t : Nat} {rs : List (Nat × Option (Bool × Nat))} : RX ((t, none) :: rs) env σ KL tL = RX rs env σ (fun xs => KL (env.get t :: xs)) ⟨⟩ := (rfl)
theorem RX_cell {t n : Nat} {agg : Bool} {rs : List (Nat × Option (Bool × Nat))} :
    RX ((t, some (agg, n)) :: rs) env σ KL tL = loadX_ σ agg n (env.get t) (fun x => RX rs env σ (fun xs => KL (x :: xs)) ⟨⟩) ⟨⟩ := (rfl)
theorem one_nil : oneOrTup [] = .tup [] := (rfl)
theorem one_one {x : AV} : oneOrTup [x] = x := (rfl)
theorem one_two {x y : AV} {xs : List AV} : oneOrTup (x :: y :: xs) = .tup (x :: y :: xs) := (rfl)
theorem argEnv_nil {i : Nat} : argEnv i [] = [] := (rfl)
theorem argEnv_cons {i : Nat} {x : AV} {xs : List AV} : argEnv i (x :: xs) = (i, x) :: argEnv (i + 1) xs := (rfl)

theorem FnSpec.w {k : Nat} {g : List Nat} {ts : List (Nat × Option (Bool × Nat))} {s : SCode} {args : List AV} (hk : fnAt P k g = some (ts, s))
    (h : W G P s (retQ ts R) (argEnv 0 args) σ ⟨⟩) : FnSpec G P k args σ R := FnSpec.at hk h

theorem Pure.w {k : Nat} {g : List Nat} {ts : List (Nat × Option (Bool × Nat))} {s : SCode} {args : List AV} {r : AV} (hk : fnAt P k g = some (ts, s))
    (h : ∀ R : AV → Store → Prop, (∀ x σ, AVle x r → RET x σ R) → W G P s (retQ ts R) (argEnv 0 args) [] ⟨⟩) : Pure G P k args r :=
  FnSpec.at (R := fun x σ => x = r ∧ σ = []) hk (h (fun x σ => x = r ∧ σ = []) fun _ σ hx => ⟨r, [], hx, ⟨(fun p hp => by cases hp), fun _ => List.nodup_nil⟩, ⟨rfl, rfl⟩⟩)

theorem Weak.keepEq {G : Glob} {env env' : Env} {σ : Store} (ks : List Nat) (h : env.keep ks = env') : Weak G env σ env' σ := by
  subst h
  intro ρ w tmps hS hE
  refine ⟨hS, Ev.refl σ w, fun j => ?_⟩
  rcases Env.get_keep ks env j with e | e
  · rw [e]; simp only [Rep]
  · rw [e]; exact hE j

theorem RET.eq {x : AV} {r : AV} {R : AV → Store → Prop} {σ : Store} (hR : ∀ x σ, AVle x r → RET x σ R) (h : x = r) : RET x σ R := hR _ _ (h ▸ AVle.rfl' _)

end
end Go.Av
