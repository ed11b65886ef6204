/-
  ABSTRACT VALUES, 8: the rest of the operations that leave memory as it is.
-/
import Derived.Test.YtmghejoigggooaaGreatDoorXAv7
namespace Go.Av
open Go Go.RowKit

theorem splice_eq : ∀ (l : List AV) (o : Nat) (c : List AV), o + c.length ≤ l.length → splice l o c = l.take o ++ c ++ l.drop (o + c.length)
  | l, 0, c, _ => by cases l <;> simp [splice]
  | [], o + 1, c, h => by simp at h
  | x :: l, o + 1, c, h => by
    have := splice_eq l o c (by simp at h; omega)
    simp only [splice, this, List.take_succ_cons, List.cons_append]
    rw [show o + 1 + c.length = (o + c.length) + 1 by omega, List.drop_succ_cons]

theorem fold_set (o : Nat) : ∀ (vs : List Value) (i : Nat) (C : Array Value), o + i + vs.length ≤ C.size →
    ((vs.zipIdx i).foldl (fun cs (x : Value × Nat) => cs.setIfInBounds (o + x.2) x.1) C).toList = C.toList.take (o + i) ++ vs ++ C.toList.drop (o + i + vs.length)
  | [], i, C, _ => by simp
  | v :: vs, i, C, h => by
    simp only [List.zipIdx_cons, List.foldl_cons]
    rw [fold_set o vs (i + 1) (C.setIfInBounds (o + i) v) (by simp at h ⊢; omega)]
    have hi : o + i < C.toList.length := by simp at h ⊢; omega
    simp only [Array.toList_setIfInBounds, List.length_cons]
    rw [← Nat.add_assoc, show o + i + 1 + vs.length = o + i + (vs.length + 1) by omega]
    rw [List.drop_set_of_lt (by omega), List.take_add_one, List.getElem?_set_self hi, List.take_set_of_le (Nat.le_refl _)]
    simp

section
variable {G : Glob} {P : Program} {τ : Store} {w : World} {env : Env} {a : Act} {o : Oper} {K : AV → Prop}

theorem cells_rep {x : AV} {v : Value} {c : List AV} (hc : AV.cells? x = some c) (h : Rep τ w x v) : RepL τ w c v.cells.toList ∧ ∀ u ∈ v.cells.toList, u.oneCell' = true := by
  have single : ∀ y : AV, Rep τ w y v → v.oneCell' = true → v.cells = #[v] → RepL τ w [y] v.cells.toList ∧ ∀ u ∈ v.cells.toList, u.oneCell' = true := by
    intro y hy h1 h2
    rw [h2]
    exact ⟨by simp only [RepL]; exact ⟨v, [], rfl, hy, rfl⟩, by simpa using h1⟩
  cases x with
  | any => simp [AV.cells?] at hc
  | tup cs => simp [AV.cells?] at hc
  | agg cs =>
    simp [AV.cells?] at hc
    subst hc
    simp only [Rep] at h
    obtain ⟨vs, rfl, h1, h2⟩ := h
    exact ⟨by simpa [Value.cells] using h2, by simpa [Value.cells] using h1⟩
  | sc u =>
    simp only [AV.cells?] at hc
    split at hc
    · rename_i h1
      cases hc
      have h' := h
      simp only [Rep] at h'
      subst h'
      refine single _ h h1 ?_
      cases v <;> first | rfl | exact absurd h1 (by simp [Value.oneCell'])
    · cases hc
  | bool b =>
    simp [AV.cells?] at hc; subst hc
    have h' := h; simp only [Rep] at h'; subst h'
    exact single _ h rfl rfl
  | int k n =>
    simp [AV.cells?] at hc; subst hc
    have h' := h; simp only [Rep] at h'; subst h'
    exact single _ h rfl rfl
  | str s =>
    simp [AV.cells?] at hc; subst hc
    have h' := h; simp only [Rep] at h'; subst h'
    exact single _ h rfl rfl
  | nil =>
    simp [AV.cells?] at hc; subst hc
    have h' := h; simp only [Rep] at h'; subst h'
    exact single _ h rfl rfl
  | lst sz rows =>
    simp [AV.cells?] at hc; subst hc
    have h' := h; simp only [Rep] at h'
    rcases h' with ⟨h', _⟩ | ⟨ad, cap, h', _⟩ <;> subst h' <;> exact single _ h rfl rfl
  | own b e sz rows =>
    simp [AV.cells?] at hc; subst hc
    have h' := h
    cases b with
    | none => simp only [Rep] at h'; obtain ⟨h', _⟩ := h'; subst h'; exact single _ h rfl rfl
    | some b => simp only [Rep] at h'; obtain ⟨cap, h', _⟩ := h'; subst h'; exact single _ h rfl rfl
  | ref cs =>
    simp [AV.cells?] at hc; subst hc
    have h' := h; simp only [Rep] at h'
    obtain ⟨ad, h', _⟩ := h'
    subst h'
    exact single _ h rfl rfl

theorem splice_rep {cs c : List AV} {C : Array Value} {v : Value} {off n : Nat} (hC : RepL τ w cs C.toList) (hc : RepL τ w c v.cells.toList) (hn : c.length = n) (hle : off + n ≤ cs.length) :
    RepL τ w (splice cs off c) (v.cells.zipIdx.foldl (fun cs (x : Value × Nat) => cs.setIfInBounds (off + x.2) x.1) C).toList := by
  have l1 := hC.length
  have l2 := hc.length
  subst hn
  have e := fold_set off v.cells.toList 0 C (by simp at l1 l2 ⊢; omega)
  rw [← Array.foldl_toList, Array.toList_zipIdx]
  rw [e, splice_eq cs off c hle]
  simp only [Nat.add_zero]
  rw [l2]
  exact RepL.append (RepL.append (RepL.take _ hC) hc) (RepL.drop _ hC)

/-- A literal filled in, part by part. -/
theorem fill_rep (place : Nat → Option (Nat × Nat)) : ∀ (parts : List (Nat × Operand)) (sparts : List (Nat × Nat × SOpd)) (cs : List AV) (C : Array Value) (KL : List AV → Prop),
    (∀ (j : Nat) p q, parts[j]? = some p → sparts[j]? = some q → place p.1 = some (q.1, q.2.1) ∧ q.2.2 = SOpd.of p.2) → parts.length = sparts.length →
    Sat G τ w → (∀ j, Rep τ w (env.get j) (a.tmps.getD j undef)) → RepL τ w cs C.toList → (∀ v ∈ C.toList, v.oneCell' = true) → fillAV G env cs sparts KL →
    ∃ C' cs', Instr.fill place C (parts.map fun p => (p.1, a.eval p.2)) = some C' ∧ KL cs' ∧ RepL τ w cs' C'.toList ∧ ∀ v ∈ C'.toList, v.oneCell' = true
  | [], [], cs, C, KL, _, _, _, _, hC, h1, h => ⟨C, cs, rfl, h, hC, h1⟩
  | p :: parts, q :: sparts, cs, C, KL, hp, hl, hS, hE, hC, h1, h => by
    obtain ⟨off, n, x⟩ := q
    obtain ⟨hpl, hx⟩ := hp 0 p _ rfl rfl
    simp only at hpl hx
    subst hx
    simp only [fillAV, withCells] at h
    split at h
    · rename_i c hc
      obtain ⟨hn, hle, h⟩ := h
      obtain ⟨r1, r2⟩ := cells_rep hc (eval_rep hS hE p.2)
      have l1 := hC.length
      have l2 := r1.length
      have hs1 : (a.eval p.2).cells.size = n := by simp at l2; omega
      have hs2 : off + (a.eval p.2).cells.size ≤ C.size := by simp at l1; omega
      have hspl := splice_rep (w := w) hC r1 hn hle
      obtain ⟨C', cs', k1, k2, k3, k4⟩ := fill_rep place parts sparts (splice cs off c) _ KL (fun j p q h1 h2 => hp (j + 1) p q h1 h2) (by simpa using hl) hS hE hspl (by
        rw [← Array.foldl_toList, Array.toList_zipIdx, fold_set off _ 0 C (by simp; omega)]
        intro v hv
        simp only [List.mem_append] at hv
        rcases hv with (hv | hv) | hv
        · exact h1 v (List.mem_of_mem_take hv)
        · exact r2 v hv
        · exact h1 v (List.mem_of_mem_drop hv)) h
      refine ⟨C', cs', ?_, k2, k3, k4⟩
      simp only [List.map_cons, Instr.fill, hpl]
      rw [if_neg (by simp [hs1]; omega)]
      exact k1
    · exact h.elim
  | [], _ :: _, _, _, _, _, hl, _, _, _, _, _ => by simp at hl
  | _ :: _, [], _, _, _, _, hl, _, _, _, _, _ => by simp at hl

end
end Go.Av
