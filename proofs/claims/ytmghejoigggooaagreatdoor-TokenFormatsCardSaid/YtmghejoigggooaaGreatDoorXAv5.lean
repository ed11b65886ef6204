/-
  ABSTRACT VALUES, 5: weaker states; calls by what the callee does.
-/
import Derived.Test.YtmghejoigggooaaGreatDoorXAv4
namespace Go.Av
open Go Go.RowKit

theorem Rep.ofOne (σ : Store) (w : World) (v : Value) : Rep σ w (AV.ofOne v) v := by
  cases v <;> first
    | (simp only [AV.ofOne, Rep]; done)
    | skip
  case slice a n c =>
    cases a <;> cases n <;> cases c <;> simp only [AV.ofOne, Rep]

theorem RepL.ofOnes (σ : Store) (w : World) : ∀ vs : List Value, RepL σ w (vs.map AV.ofOne) vs
  | [] => by simp [RepL]
  | v :: vs => by simp only [List.map_cons, RepL]; exact ⟨v, vs, rfl, Rep.ofOne σ w v, RepL.ofOnes σ w vs⟩

theorem Rep.ofValue (σ : Store) (w : World) (v : Value) : Rep σ w (AV.ofValue v) v := by
  cases v with
  | agg cs =>
    simp only [AV.ofValue]
    split
    · rename_i h
      simp only [Rep]
      exact ⟨cs, rfl, fun v hv => List.all_eq_true.1 h v hv, RepL.ofOnes σ w _⟩
    · simp only [Rep]
  | _ => simp only [AV.ofValue]; exact Rep.ofOne σ w _

theorem RepL.ofValues (σ : Store) (w : World) : ∀ vs : List Value, RepL σ w (vs.map AV.ofValue) vs
  | [] => by simp [RepL]
  | v :: vs => by simp only [List.map_cons, RepL]; exact ⟨v, vs, rfl, Rep.ofValue σ w v, RepL.ofValues σ w vs⟩

theorem AVle1.rfl' (x : AV) : AVle1 x x := Or.inl rfl
theorem AVle.rfl' (x : AV) : AVle x x := Or.inl (Or.inl rfl)
theorem AVleA.rfl' : ∀ xs : List AV, AVleA xs xs
  | [] => trivial
  | x :: xs => ⟨AVle.rfl' x, AVleA.rfl' xs⟩

theorem AVle1.rep {σ : Store} {w : World} {x y : AV} (h : AVle1 x y) {u : Value} (hr : Rep σ w x u) : Rep σ w y u := by
  rcases h with rfl | h
  · exact hr
  · cases y with
    | any => simp only [Rep]
    | lst sz' r' =>
      cases x with
      | own b e sz r =>
        obtain ⟨rfl, rfl⟩ := h
        cases b with
        | none => simp only [Rep] at *; exact .inl hr
        | some b =>
          simp only [Rep] at *
          obtain ⟨cap, h1, h2, h3, h4, h5⟩ := hr
          exact .inr ⟨_, cap, h1, h2, h3, h5⟩
      | nil =>
        have h : r' = [] := h
        simp only [Rep] at *
        exact .inl ⟨hr, h⟩
      | _ => exact h.elim
    | own g e sz r =>
      cases x with
      | nil =>
        obtain ⟨rfl, rfl⟩ := h
        simp only [Rep] at *
        exact ⟨hr, trivial⟩
      | _ => exact h.elim
    | nil =>
      cases x with
      | own g e sz r =>
        have h : g = none := h
        subst h
        simp only [Rep] at *
        exact hr.1
      | _ => exact h.elim
    | _ => cases x <;> exact h.elim

theorem AVleL.rep {σ : Store} {w : World} : ∀ {xs ys : List AV}, AVleL xs ys → ∀ {us : List Value}, RepL σ w xs us → RepL σ w ys us
  | [], [], _, us, h => h
  | x :: xs, y :: ys, hl, us, h => by
    simp only [RepL] at *
    obtain ⟨u, us', rfl, h2, h3⟩ := h
    exact ⟨u, us', rfl, hl.1.rep h2, AVleL.rep hl.2 h3⟩
  | [], _ :: _, h, _, _ => h.elim
  | _ :: _, [], h, _, _ => h.elim

theorem AVle.rep {σ : Store} {w : World} {x y : AV} (h : AVle x y) {u : Value} (hr : Rep σ w x u) : Rep σ w y u := by
  rcases h with h | h
  · exact h.rep hr
  · cases x <;> cases y <;> first
      | exact h.elim
      | skip
    · simp only [Rep] at *
      obtain ⟨vs, h1, h2, h3⟩ := hr
      exact ⟨vs, h1, h2, AVleL.rep h h3⟩
    · simp only [Rep] at *
      obtain ⟨vs, h1, h3⟩ := hr
      exact ⟨vs, h1, AVleL.rep h h3⟩

theorem AVleA.rep {σ : Store} {w : World} : ∀ {xs ys : List AV}, AVleA xs ys → ∀ {us : List Value}, RepL σ w xs us → RepL σ w ys us
  | [], [], _, us, h => h
  | x :: xs, y :: ys, hl, us, h => by
    simp only [RepL] at *
    obtain ⟨u, us', rfl, h2, h3⟩ := h
    exact ⟨u, us', rfl, hl.1.rep h2, AVleA.rep hl.2 h3⟩
  | [], _ :: _, h, _, _ => h.elim
  | _ :: _, [], h, _, _ => h.elim

/-! ### weaker states -/

def EnvLe (env : Env) : Env → Prop
  | [] => True
  | (k, x) :: e => AVle (env.get k) x ∧ EnvLe env e

theorem EnvLe.get {env : Env} : ∀ {env' : Env}, EnvLe env env' → ∀ j, env'.get j = .any ∨ AVle (env.get j) (env'.get j)
  | [], _, j => .inl rfl
  | (k, x) :: e, h, j => by
    simp only [Env.get]
    by_cases hk : k = j
    · subst hk; rw [if_pos rfl]; exact .inr h.1
    · rw [if_neg hk]; exact EnvLe.get h.2 j

def SubN (σ' σ : Store) : Prop := Sub σ' σ ∧ (σ.keys.Nodup → σ'.keys.Nodup)

theorem SubN.refl (σ : Store) : SubN σ σ := ⟨fun _ h => h, fun h => h⟩
theorem SubN.nil (σ : Store) : SubN [] σ := ⟨fun _ h => by simp at h, fun _ => by simp [Store.keys]⟩
theorem SubN.tail {σ' σ : Store} (h : SubN σ' σ) (p : Nat × AObj) : SubN σ' (p :: σ) :=
  ⟨fun q hq => List.mem_cons_of_mem _ (h.1 q hq), fun hn => h.2 (by simp only [Store.keys, List.map_cons, List.nodup_cons] at hn; exact hn.2)⟩
theorem SubN.cons {σ' σ : Store} (h : SubN σ' σ) (p : Nat × AObj) : SubN (p :: σ') (p :: σ) :=
  ⟨fun q hq => by
    rcases List.mem_cons.1 hq with rfl | hq
    · simp
    · exact List.mem_cons_of_mem _ (h.1 q hq),
   fun hn => by
    simp only [Store.keys, List.map_cons, List.nodup_cons] at hn ⊢
    exact ⟨fun hm => hn.1 (keys_sub h.1 hm), h.2 hn.2⟩⟩

theorem Sat.subN {G : Glob} {σ σ' ρ : Store} {w : World} (h : Sat G (σ ++ ρ) w) (hs : SubN σ' σ) : Sat G (σ' ++ ρ) w := by
  have h0 := h.nodup
  rw [keys_append] at h0
  obtain ⟨n1, n2, n3⟩ := List.nodup_append.1 h0
  refine h.sub (fun p hp => ?_) ?_
  · rcases List.mem_append.1 hp with hp | hp
    · exact List.mem_append.2 (.inl (hs.1 p hp))
    · exact List.mem_append.2 (.inr hp)
  · rw [keys_append]
    exact List.nodup_append.2 ⟨hs.2 n1, n2, fun a ha b hb => n3 a (keys_sub hs.1 ha) b hb⟩

theorem Weak.of {G : Glob} {env env' : Env} {σ σ' : Store} (he : EnvLe env env') (hs : SubN σ' σ) : Weak G env σ env' σ' := by
  intro ρ w tmps hS hE
  refine ⟨hS.subN hs, Ev.of_sub hs.1 w, fun j => ?_⟩
  rcases he.get j with h | h
  · rw [h]; simp only [Rep]
  · exact h.rep (Rep.ev (Ev.of_sub hs.1 w) _ _ (hE j))

theorem Weak.rfl' {G : Glob} (env : Env) (σ : Store) : Weak G env σ env σ := fun _ w _ hS hE => ⟨hS, Ev.refl σ w, hE⟩

theorem Weak.trans {G : Glob} {env env1 env2 : Env} {σ σ1 σ2 : Store} (h : Weak G env σ env1 σ1) (k : Weak G env1 σ1 env2 σ2) : Weak G env σ env2 σ2 := by
  intro ρ w tmps hS hE
  obtain ⟨a1, a2, a3⟩ := h ρ w tmps hS hE
  obtain ⟨b1, b2, b3⟩ := k ρ w tmps a1 a3
  exact ⟨b1, a2.trans b2, b3⟩

/-! ### calls -/

theorem FnSpec.v {G : Glob} {P : Program} {k : FuncId} {args : List AV} {σ : Store} {R : AV → Store → Prop} (h : FnSpec G P k args σ R) : VSpec G P (.func (.func k) #[] #[]) args σ R :=
  ⟨k, #[], #[], rfl, by simpa using h⟩

/-- A function that only computes. -/
def Pure (G : Glob) (P : Program) (k : FuncId) (args : List AV) (r : AV) : Prop := FnSpec G P k args [] fun x σ => x = r ∧ σ = []
def VPure (G : Glob) (P : Program) (f : Value) (args : List AV) (r : AV) : Prop := VSpec G P f args [] fun x σ => x = r ∧ σ = []

theorem Pure.v {G : Glob} {P : Program} {k : FuncId} {args : List AV} {r : AV} (h : Pure G P k args r) : VPure G P (.func (.func k) #[] #[]) args r := FnSpec.v h

theorem CALL_spec {G : Glob} {P : Program} {f : Value} {args : List AV} {σ : Store} {K : AV → Store → Prop} {t : Tag K} {R : AV → Store → Prop} {args' : List AV} (σf σr : Store)
    (h : VSpec G P f args' σf R) (ha : AVleA args args') (hs : SubN (σf ++ σr) σ) (hk : ∀ r σ', R r σ' → K r (σ' ++ σr)) : CALL G P f args σ K t :=
  ⟨R, σf, σr, args', .inl h, ha, hs.1, hs.2, hk⟩

theorem CALL_x {G : Glob} {P : Program} {f : Value} {args : List AV} {σ : Store} {K : AV → Store → Prop} {t : Tag K} {R : AV → Store → Prop} {args' : List AV} (σf σr : Store)
    (h : XSpec G P f args' σf R) (ha : AVleA args args') (hs : SubN (σf ++ σr) σ) (hk : ∀ r σ', R r σ' → K r (σ' ++ σr)) : CALL G P f args σ K t :=
  ⟨R, σf, σr, args', .inr h, ha, hs.1, hs.2, hk⟩

theorem INV_spec {G : Glob} {P : Program} {v : Value} {name : String} {args : List AV} {σ : Store} {K : AV → Store → Prop} {t : Tag K} {k : FuncId} {rv : Value}
    (hm : Meth P v name k rv) (h : CALL G P (.func (.func k) #[rv] #[]) args σ K t) : INV G P v name args σ K t := ⟨k, rv, hm, h⟩

theorem CALL_vpure {G : Glob} {P : Program} {f : Value} {args : List AV} {σ : Store} {K : AV → Store → Prop} {t : Tag K} {r : AV}
    (h : VPure G P f args r) (hk : K r σ) : CALL G P f args σ K t :=
  CALL_spec [] σ h (AVleA.rfl' _) (SubN.refl _) (by rintro _ _ ⟨rfl, rfl⟩; exact hk)

theorem CALL_pure {G : Glob} {P : Program} {k : FuncId} {args : List AV} {σ : Store} {K : AV → Store → Prop} {t : Tag K} {r : AV}
    (h : Pure G P k args r) (hk : K r σ) : CALL G P (.func (.func k) #[] #[]) args σ K t := CALL_vpure h.v hk

theorem CALL_pure_le {G : Glob} {P : Program} {k : FuncId} {args args' : List AV} {σ : Store} {K : AV → Store → Prop} {t : Tag K} {r : AV}
    (h : Pure G P k args' r) (ha : AVleA args args') (hk : K r σ) : CALL G P (.func (.func k) #[] #[]) args σ K t :=
  CALL_spec [] σ h.v ha (SubN.refl _) (by rintro _ _ ⟨rfl, rfl⟩; exact hk)

theorem QCALL_vpure {G : Glob} {P : Program} {f : Value} {args : List AV} {K : AV → Prop} {t : Tag K} {r : AV}
    (h : VPure G P f args r) (hr : r.rigid.isSome = true) (hk : K r) : QCALL G P f args K t := ⟨r, args, hr, h, AVleA.rfl' _, hk⟩
theorem QCALL_pure {G : Glob} {P : Program} {k : FuncId} {args : List AV} {K : AV → Prop} {t : Tag K} {r : AV}
    (h : Pure G P k args r) (hr : r.rigid.isSome = true) (hk : K r) : QCALL G P (.func (.func k) #[] #[]) args K t := QCALL_vpure h.v hr hk

/-! ### a callee's contract, weakened -/

theorem FnSpec.mono {G : Glob} {P : Program} {k : FuncId} {args : List AV} {σ : Store} {R R' : AV → Store → Prop} (h : FnSpec G P k args σ R) (hr : ∀ r σ', R r σ' → R' r σ') : FnSpec G P k args σ R' :=
  ⟨h.1, fun ρ w vs hS hA => (h.2 ρ w vs hS hA).mono fun _ _ ⟨v, r, σ', he, hR, rest⟩ => ⟨v, r, σ', he, hr _ _ hR, rest⟩⟩

end Go.Av
