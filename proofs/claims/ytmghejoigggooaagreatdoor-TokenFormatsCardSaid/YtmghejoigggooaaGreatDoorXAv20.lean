/-
  ABSTRACT VALUES, 20: a store whose cells stand for more.
-/
import Derived.Test.YtmghejoigggooaaGreatDoorXAv19
namespace Go.Av
set_option linter.unusedVariables false
open Go Go.RowKit

/-- Block by block, what one store's cells stand for the other's stand for too. -/
def StLe : Store → Store → Prop
  | [], [] => True
  | (b, .cells e cs) :: σ, (b', .cells e' cs') :: σ' => b = b' ∧ e = e' ∧ AVleL cs cs' ∧ StLe σ σ'
  | (b, x) :: σ, (b', x') :: σ' => b = b' ∧ x = x' ∧ StLe σ σ'
  | _, _ => False

theorem AVleL.rfl' : ∀ xs : List AV, AVleL xs xs
  | [] => trivial
  | x :: xs => ⟨AVle1.rfl' x, AVleL.rfl' xs⟩

theorem StLe.rfl' : ∀ σ : Store, StLe σ σ
  | [] => trivial
  | (b, .cells e cs) :: σ => ⟨rfl, rfl, AVleL.rfl' cs, StLe.rfl' σ⟩
  | (b, .tok e k) :: σ => ⟨rfl, rfl, StLe.rfl' σ⟩
  | (b, .map es) :: σ => ⟨rfl, rfl, StLe.rfl' σ⟩

theorem StLe.keys : ∀ {σ σ' : Store}, StLe σ σ' → σ'.keys = σ.keys
  | [], [], _ => rfl
  | (b, .cells e cs) :: σ, (b', .cells e' cs') :: σ', h => by
    obtain ⟨rfl, _, _, h⟩ := h
    have := StLe.keys h
    simp only [Store.keys] at this
    simp [Store.keys, this]
  | (b, .tok e k) :: σ, (b', x') :: σ', h => by
    have h : b = b' ∧ _ ∧ StLe σ σ' := h
    have := StLe.keys h.2.2
    simp only [Store.keys] at this
    simp [Store.keys, this, h.1]
  | (b, .map es) :: σ, (b', x') :: σ', h => by
    have h : b = b' ∧ _ ∧ StLe σ σ' := h
    have := StLe.keys h.2.2
    simp only [Store.keys] at this
    simp [Store.keys, this, h.1]
  | (b, .cells e cs) :: σ, (b', .tok _ _) :: σ', h => by
    have h : b = b' ∧ _ ∧ StLe σ σ' := h
    cases h.2.1
  | (b, .cells e cs) :: σ, (b', .map _) :: σ', h => by
    have h : b = b' ∧ _ ∧ StLe σ σ' := h
    cases h.2.1
  | [], _ :: _, h => h.elim
  | (_, .cells _ _) :: _, [], h => h.elim
  | (_, .tok _ _) :: _, [], h => h.elim
  | (_, .map _) :: _, [], h => h.elim

/-- An object of the weaker store has an object of the stronger behind it. -/
theorem StLe.back : ∀ {σ σ' : Store}, StLe σ σ' → ∀ {b : Nat} {x' : AObj}, (b, x') ∈ σ' → ∃ x, (b, x) ∈ σ ∧ (x = x' ∨ ∃ e cs cs', x = .cells e cs ∧ x' = .cells e cs' ∧ AVleL cs cs')
  | [], [], _, b, x', h => by simp at h
  | (b, .cells e cs) :: σ, (b', .cells e' cs') :: σ', h, c, x', hm => by
    obtain ⟨rfl, rfl, hl, h⟩ := h
    rcases List.mem_cons.1 hm with e1 | hm
    · cases e1
      exact ⟨_, List.mem_cons_self .., .inr ⟨_, _, _, rfl, rfl, hl⟩⟩
    · obtain ⟨x, hx, hr⟩ := StLe.back h hm
      exact ⟨x, List.mem_cons_of_mem _ hx, hr⟩
  | (b, .tok e k) :: σ, (b', y) :: σ', h, c, x', hm => by
    have h2 : b = b' ∧ _ = y ∧ StLe σ σ' := h
    obtain ⟨rfl, rfl, h3⟩ := h2
    rcases List.mem_cons.1 hm with e1 | hm
    · cases e1; exact ⟨_, List.mem_cons_self .., .inl rfl⟩
    · obtain ⟨x, hx, hr⟩ := StLe.back h3 hm
      exact ⟨x, List.mem_cons_of_mem _ hx, hr⟩
  | (b, .map es) :: σ, (b', y) :: σ', h, c, x', hm => by
    have h2 : b = b' ∧ _ = y ∧ StLe σ σ' := h
    obtain ⟨rfl, rfl, h3⟩ := h2
    rcases List.mem_cons.1 hm with e1 | hm
    · cases e1; exact ⟨_, List.mem_cons_self .., .inl rfl⟩
    · obtain ⟨x, hx, hr⟩ := StLe.back h3 hm
      exact ⟨x, List.mem_cons_of_mem _ hx, hr⟩
  | (b, .cells e cs) :: σ, (b', .tok _ _) :: σ', h, _, _, _ => by
    have h : b = b' ∧ _ ∧ StLe σ σ' := h
    cases h.2.1
  | (b, .cells e cs) :: σ, (b', .map _) :: σ', h, _, _, _ => by
    have h : b = b' ∧ _ ∧ StLe σ σ' := h
    cases h.2.1
  | [], _ :: _, h, _, _, _ => h.elim
  | (_, .cells _ _) :: _, [], h, _, _, _ => h.elim
  | (_, .tok _ _) :: _, [], h, _, _, _ => h.elim
  | (_, .map _) :: _, [], h, _, _, _ => h.elim

theorem StLe.mut {σ σ' : Store} (h : StLe σ σ') {b o : Nat} (m : Mut σ' b o) : Mut σ b o := by
  obtain ⟨x', hx', hm⟩ := m
  obtain ⟨x, hx, rfl | ⟨e, cs, cs', rfl, rfl, _⟩⟩ := h.back hx'
  · exact ⟨_, hx, hm⟩
  · exact ⟨_, hx, trivial⟩

theorem StLe.ev {σ σ' : Store} (h : StLe σ σ') (w : World) : Ev σ w σ' w :=
  ⟨rfl, rfl, rfl, Nat.le_refl _, fun _ _ hn => ⟨rfl, fun hb => hn (by rw [h.keys] at hb; exact hb)⟩, fun _ _ h => h, fun _ _ hv hm => ⟨hv, fun m => hm (h.mut m)⟩⟩

theorem StLe.sat {G : Glob} {σ σ' ρ : Store} {w : World} (h : StLe σ σ') (hS : Sat G (σ ++ ρ) w) : Sat G (σ' ++ ρ) w := by
  refine Sat.step hS (h.ev w) ?_ (fun b hb => .inl (by rw [h.keys] at hb; exact hb)) (fun b x' hx' => ?_)
  · have := hS.nodup
    rw [keys_append] at this
    rw [h.keys]
    exact (List.nodup_append.1 this).1
  · obtain ⟨x, hx, hr⟩ := h.back hx'
    have ho := hS.obj b x (List.mem_append.2 (.inl hx))
    have ev : ∀ {xs us}, RepL (σ ++ ρ) w xs us → RepL (σ' ++ ρ) w xs us := fun hr => RepL.ev (h.ev w) _ _ hr
    rcases hr with rfl | ⟨e, cs, cs', rfl, rfl, hl⟩
    · cases x with
      | cells e cs => obtain ⟨vs, h1, h2, h3⟩ := ho; exact ⟨vs, h1, h2, ev h3⟩
      | tok e k => exact ho
      | map es => obtain ⟨ents, c, h1, h2, h3⟩ := ho; exact ⟨ents, c, h1, h2, ev h3⟩
    · obtain ⟨vs, h1, h2, h3⟩ := ho
      exact ⟨vs, h1, h2, hl.rep (ev h3)⟩

theorem Weak.le {G : Glob} {env env' : Env} {σ σ' : Store} (he : EnvLe env env') (hs : StLe σ σ') : Weak G env σ env' σ' := by
  intro ρ w tmps hS hE
  refine ⟨hs.sat hS, hs.ev w, fun j => ?_⟩
  rcases he.get j with h | h
  · rw [h]; simp only [Rep]
  · exact h.rep (Rep.ev (hs.ev w) _ _ (hE j))

theorem Weak.st {G : Glob} {env : Env} {σ σ' : Store} (hs : StLe σ σ') : Weak G env σ env σ' := fun ρ w _ hS hE => ⟨hs.sat hS, hs.ev w, fun j => Rep.ev (hs.ev w) _ _ (hE j)⟩
end Go.Av
