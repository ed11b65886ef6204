/-
  ENACT, 1: paths in trees, in plain Lean: the way to the first unit with an ID; a unit changed, a unit put in another's place; parents.
-/
import Derived.Test.YtcecmifknojgeaaGreatDoorXL9toXL15
section
namespace Go.Av
open Go Go.RowKit Go.Proofs
set_option linter.unusedSimpArgs false
set_option linter.unusedVariables false

theorem U.idss_nil : U.idss [] = [] := by unfold U.idss; rw [U.flats]; rfl
theorem U.idss_app (a b : List U) : U.idss (a ++ b) = U.idss a ++ U.idss b := by
  induction a with
  | nil => rw [U.idss_nil]; rfl
  | cons x a ih => rw [List.cons_append, U.idss_cons, U.idss_cons, ih, List.append_assoc]
def orW : List U → List U → List U
  | [], q => q
  | x :: p, _ => x :: p
def consW (u : U) : List U → List U
  | [] => []
  | x :: p => u :: x :: p
theorem orW_nil {p q : List U} : orW p q = [] ↔ p = [] ∧ q = [] := by cases p <;> simp [orW]
theorem consW_nil {u : U} {p : List U} : consW u p = [] ↔ p = [] := by cases p <;> simp [consW]
theorem consW_ne {u : U} {p : List U} (h : p ≠ []) : consW u p = u :: p := by cases p <;> simp_all [consW]
theorem orW_ne {p q : List U} (h : p ≠ []) : orW p q = p := by cases p <;> simp_all [orW]

mutual
def U.way (i : Idd) : U → List U
  | ⟨d, k, l, h, w, ks⟩ => if d = i then [⟨d, k, l, h, w, ks⟩] else consW ⟨d, k, l, h, w, ks⟩ (U.ways i ks)
def U.ways (i : Idd) : List U → List U
  | [] => []
  | u :: us => orW (U.way i u) (U.ways i us)
end
theorem U.way_eq (i : Idd) (u : U) : U.way i u = if u.id = i then [u] else consW u (U.ways i u.kids) := by cases u; rw [U.way]
theorem U.ways_nil (i : Idd) : U.ways i [] = [] := by rw [U.ways]
theorem U.ways_cons (i : Idd) (u : U) (us : List U) : U.ways i (u :: us) = orW (U.way i u) (U.ways i us) := by rw [U.ways]

theorem ways_no_of {i : Idd} {us : List U} (h : ∀ k ∈ us, (U.way i k = [] ↔ i ∉ k.ids)) : U.ways i us = [] ↔ i ∉ U.idss us := by
  induction us with
  | nil => rw [U.ways_nil, U.idss_nil]; simp
  | cons u us ih =>
    rw [U.ways_cons, U.idss_cons, orW_nil, List.mem_append, h u (by simp), ih fun k hk => h k (by simp [hk])]
    simp [not_or]
theorem way_no {i : Idd} : ∀ u : U, U.way i u = [] ↔ i ∉ u.ids := by
  refine U.ind fun u ih => ?_
  rw [U.way_eq, U.ids_eq, List.mem_cons]
  by_cases h : u.id = i
  · simp [h]
  · rw [if_neg h, consW_nil, ways_no_of ih]
    simp [Ne.symm h]
theorem ways_no {i : Idd} (us : List U) : U.ways i us = [] ↔ i ∉ U.idss us := ways_no_of fun k _ => way_no k
theorem way_yes {i : Idd} {u : U} : U.way i u ≠ [] ↔ i ∈ u.ids := by rw [Ne, way_no]; simp

structure Split (i : Idd) (us a : List U) (k : U) (b : List U) : Prop where
  eq : us = a ++ k :: b
  mem : i ∈ k.ids
  left : i ∉ U.idss a
  right : i ∉ U.idss b
  nd : k.ids.Nodup
theorem split_of {i : Idd} {us : List U} (hn : (U.idss us).Nodup) (hi : i ∈ U.idss us) : ∃ a k b, Split i us a k b := by
  induction us with
  | nil => rw [U.idss_nil] at hi; cases hi
  | cons u us ih =>
    rw [U.idss_cons] at hn hi
    obtain ⟨n1, n2, n3⟩ := List.nodup_append.1 hn
    by_cases h : i ∈ u.ids
    · exact ⟨[], u, us, rfl, h, by rw [U.idss_nil]; simp, fun hr => n3 i h i hr rfl, n1⟩
    · obtain ⟨a, k, b, e, h1, h2, h3, h4⟩ := ih n2 ((List.mem_append.1 hi).resolve_left h)
      refine ⟨u :: a, k, b, by rw [e]; rfl, h1, ?_, h3, h4⟩
      rw [U.idss_cons, List.mem_append, not_or]
      exact ⟨h, h2⟩
theorem U.nd_kids {u : U} (h : u.ids.Nodup) : (U.idss u.kids).Nodup ∧ u.id ∉ U.idss u.kids := by
  rw [U.ids_eq, List.nodup_cons] at h
  exact ⟨h.2, h.1⟩
theorem U.wayInd {i : Idd} {p : U → Prop} (h0 : ∀ u, u.ids.Nodup → u.id = i → p u)
    (h1 : ∀ u a k b, u.ids.Nodup → u.id ≠ i → Split i u.kids a k b → p k → p u) (u : U) (hn : u.ids.Nodup) (hi : i ∈ u.ids) : p u := by
  revert hn hi
  refine U.ind (p := fun u => u.ids.Nodup → i ∈ u.ids → p u) (fun u ih hn hi => ?_) u
  by_cases h : u.id = i
  · exact h0 u hn h
  · rw [U.ids_eq, List.mem_cons] at hi
    obtain ⟨a, k, b, s⟩ := split_of (U.nd_kids hn).1 (hi.resolve_left (Ne.symm h))
    exact h1 u a k b hn h s (ih k (by rw [s.eq]; simp) s.nd s.mem)

theorem ways_app (i : Idd) (a b : List U) : U.ways i (a ++ b) = orW (U.ways i a) (U.ways i b) := by
  induction a with
  | nil => rw [U.ways_nil]; rfl
  | cons x a ih =>
    rw [List.cons_append, U.ways_cons, U.ways_cons, ih]
    cases U.way i x <;> simp [orW]
theorem Split.ways {i : Idd} {us a b : List U} {k : U} (s : Split i us a k b) : U.ways i us = U.way i k := by
  rw [s.eq, ways_app, (ways_no a).2 s.left, U.ways_cons]
  show orW (U.way i k) _ = _
  rw [orW_ne (way_yes.2 s.mem)]
theorem Split.way {i : Idd} {u : U} {a b : List U} {k : U} (hu : u.id ≠ i) (s : Split i u.kids a k b) : U.way i u = u :: U.way i k := by
  rw [U.way_eq, if_neg hu, s.ways, consW_ne (way_yes.2 s.mem)]
theorem way_here {i : Idd} {u : U} (h : u.id = i) : U.way i u = [u] := by rw [U.way_eq, if_pos h]

/-! ### a unit changed -/
mutual
def U.wth (i : Idd) (f : U → U) : U → U
  | ⟨d, k, l, h, w, ks⟩ => if d = i then f ⟨d, k, l, h, w, ks⟩ else ⟨d, k, l, h, w, U.wths i f ks⟩
def U.wths (i : Idd) (f : U → U) : List U → List U
  | [] => []
  | u :: us => if U.way i u = [] then u :: U.wths i f us else U.wth i f u :: us
end
theorem U.wth_eq (i : Idd) (f : U → U) (u : U) : U.wth i f u = if u.id = i then f u else { u with kids := U.wths i f u.kids } := by cases u; rw [U.wth]
theorem U.wths_nil (i : Idd) (f : U → U) : U.wths i f [] = [] := by rw [U.wths]
theorem U.wths_cons (i : Idd) (f : U → U) (u : U) (us : List U) : U.wths i f (u :: us) = if U.way i u = [] then u :: U.wths i f us else U.wth i f u :: us := by rw [U.wths]
theorem wths_no {i : Idd} {f : U → U} : ∀ {us : List U}, i ∉ U.idss us → U.wths i f us = us
  | [], _ => U.wths_nil i f
  | u :: us, h => by
    rw [U.idss_cons, List.mem_append, not_or] at h
    rw [U.wths_cons, if_pos ((way_no u).2 h.1), wths_no h.2]
theorem wth_no {i : Idd} {f : U → U} {u : U} (h : i ∉ u.ids) : U.wth i f u = u := by
  rw [U.ids_eq, List.mem_cons, not_or] at h
  rw [U.wth_eq, if_neg (Ne.symm h.1), wths_no h.2]
  cases u; rfl
theorem wths_app {i : Idd} {f : U → U} {a b : List U} (h : i ∉ U.idss a) : U.wths i f (a ++ b) = a ++ U.wths i f b := by
  induction a with
  | nil => rfl
  | cons x a ih =>
    rw [U.idss_cons, List.mem_append, not_or] at h
    rw [List.cons_append, U.wths_cons, if_pos ((way_no x).2 h.1), ih h.2]
    rfl
theorem Split.wths {i : Idd} {f : U → U} {us a b : List U} {k : U} (s : Split i us a k b) : U.wths i f us = a ++ U.wth i f k :: b := by
  rw [s.eq, wths_app s.left, U.wths_cons, if_neg (way_yes.2 s.mem)]
theorem Split.wth {i : Idd} {f : U → U} {u : U} {a b : List U} {k : U} (hu : u.id ≠ i) (s : Split i u.kids a k b) : U.wth i f u = { u with kids := a ++ U.wth i f k :: b } := by
  rw [U.wth_eq, if_neg hu, s.wths]
theorem wth_here {i : Idd} {f : U → U} {u : U} (h : u.id = i) : U.wth i f u = f u := by rw [U.wth_eq, if_pos h]

/-! ### parents -/
def firstAt {α : Type} (p : α → Bool) : List α → Option Nat
  | [] => none
  | x :: l => if p x then some 0 else (firstAt p l).map (· + 1)
theorem firstAt_app {α : Type} {p : α → Bool} {a b : List α} {k : α} (ha : ∀ x ∈ a, p x = false) (hk : p k = true) : firstAt p (a ++ k :: b) = some a.length := by
  induction a with
  | nil => simp [firstAt, hk]
  | cons x a ih =>
    rw [List.cons_append, firstAt, ha x (by simp), ih fun y hy => ha y (by simp [hy])]
    simp
theorem firstAt_no {α : Type} {p : α → Bool} {a : List α} (ha : ∀ x ∈ a, p x = false) : firstAt p a = none := by
  induction a with
  | nil => rfl
  | cons x a ih => rw [firstAt, ha x (by simp), ih fun y hy => ha y (by simp [hy])]; rfl
mutual
def U.par (i : Idd) : U → Option (U × Nat × Nat)
  | ⟨d, k, l, h, w, ks⟩ => match firstAt (fun k => decide (k.id = i)) ks with
    | some j => some (⟨d, k, l, h, w, ks⟩, 0, j)
    | none => U.pars i ks
def U.pars (i : Idd) : List U → Option (U × Nat × Nat)
  | [] => none
  | u :: us => match U.par i u with
    | some (p, d, j) => some (p, d + 1, j)
    | none => U.pars i us
end
theorem U.par_eq (i : Idd) (u : U) : U.par i u = match firstAt (fun k => decide (k.id = i)) u.kids with
    | some j => some (u, 0, j)
    | none => U.pars i u.kids := by cases u; rw [U.par]
theorem U.pars_nil (i : Idd) : U.pars i [] = none := by rw [U.pars]
theorem U.pars_cons (i : Idd) (u : U) (us : List U) : U.pars i (u :: us) = match U.par i u with
    | some (p, d, j) => some (p, d + 1, j)
    | none => U.pars i us := by rw [U.pars]
theorem idss_mem {i : Idd} {us : List U} {k : U} (hk : k ∈ us) (h : i ∈ k.ids) : i ∈ U.idss us := by
  induction us with
  | nil => cases hk
  | cons u us ih =>
    rw [U.idss_cons, List.mem_append]
    rcases List.mem_cons.1 hk with rfl | hk
    · exact .inl h
    · exact .inr (ih hk)
theorem id_mem (u : U) : u.id ∈ u.ids := by rw [U.ids_eq]; simp
theorem no_first {i : Idd} {us : List U} (h : i ∉ U.idss us) : ∀ x ∈ us, decide (x.id = i) = false := fun x hx => by
  refine decide_eq_false fun e => h (idss_mem hx ?_)
  rw [← e]; exact id_mem x
theorem pars_no_of {i : Idd} {us : List U} (h : ∀ k ∈ us, i ∉ k.ids → U.par i k = none) (hi : i ∉ U.idss us) : U.pars i us = none := by
  induction us with
  | nil => rw [U.pars_nil]
  | cons u us ih =>
    rw [U.idss_cons, List.mem_append, not_or] at hi
    rw [U.pars_cons, h u (by simp) hi.1]
    exact ih (fun k hk => h k (by simp [hk])) hi.2
theorem par_no {i : Idd} : ∀ u : U, i ∉ U.idss u.kids → U.par i u = none := by
  refine U.ind fun u ih h => ?_
  rw [U.par_eq, firstAt_no (no_first h)]
  refine pars_no_of (fun k hk hi => ih k hk fun hm => hi ?_) h
  rw [U.ids_eq]; exact List.mem_cons_of_mem _ hm
theorem pars_app {i : Idd} {a b : List U} (h : i ∉ U.idss a) : U.pars i (a ++ b) = U.pars i b := by
  induction a with
  | nil => rfl
  | cons x a ih =>
    rw [U.idss_cons, List.mem_append, not_or] at h
    rw [List.cons_append, U.pars_cons, par_no x fun hm => h.1 (by rw [U.ids_eq]; exact List.mem_cons_of_mem _ hm)]
    exact ih h.2
def wayPar (i : Idd) (u : U) : Option (U × Nat × Nat) := match (U.way i u).reverse with
  | _ :: p :: r => some (p, r.length, (firstAt (fun k => !(U.way i k).isEmpty) p.kids).getD 0)
  | _ => none
theorem Split.no_way {i : Idd} {us a b : List U} {k : U} (s : Split i us a k b) : firstAt (fun k => !(U.way i k).isEmpty) us = some a.length := by
  rw [s.eq]
  refine firstAt_app (fun x hx => ?_) ?_
  · rw [(way_no x).2 fun h => s.left (idss_mem hx h)]; rfl
  · have := way_yes.2 s.mem
    cases h : U.way i k with
    | nil => exact absurd h this
    | cons _ _ => rfl
theorem par_way {i : Idd} (u : U) (hn : u.ids.Nodup) (hi : i ∈ u.ids) : U.par i u = wayPar i u := by
  refine U.wayInd (i := i) (p := fun u => U.par i u = wayPar i u) ?_ ?_ u hn hi
  · intro u hn h
    have := (U.nd_kids hn).2
    rw [h] at this
    unfold wayPar
    rw [way_here h, par_no u this]
    rfl
  · intro u a k b _ h s ih
    unfold wayPar at ih ⊢
    rw [s.way h, U.par_eq]
    by_cases hk : k.id = i
    · have e : firstAt (fun k => decide (k.id = i)) u.kids = some a.length := by
        rw [s.eq]
        exact firstAt_app (no_first s.left) (decide_eq_true hk)
      have e2 := s.no_way
      rw [e, way_here hk]
      simp [e2]
    · have e : firstAt (fun k => decide (k.id = i)) u.kids = none := by
        rw [s.eq]
        refine firstAt_no fun x hx => ?_
        rcases List.mem_append.1 hx with hx | hx
        · exact no_first s.left x hx
        · rcases List.mem_cons.1 hx with rfl | hx
          · exact decide_eq_false hk
          · exact no_first s.right x hx
      have hkn : i ∈ U.idss k.kids := by
        have := s.mem
        rw [U.ids_eq, List.mem_cons] at this
        exact this.resolve_left (Ne.symm hk)
      obtain ⟨a2, k2, b2, s2⟩ := split_of (U.nd_kids s.nd).1 hkn
      rw [e]
      simp only
      rw [s.eq, pars_app s.left, U.pars_cons, ih, s2.way hk]
      have hne : U.way i k2 ≠ [] := way_yes.2 s2.mem
      obtain ⟨l, y, hl⟩ : ∃ l y, U.way i k2 = l ++ [y] := ⟨_, _, (List.dropLast_concat_getLast hne).symm⟩
      rw [hl]
      simp only [List.reverse_cons, List.reverse_append, List.reverse_nil, List.nil_append, List.cons_append, List.append_assoc]
      cases hr : l.reverse <;> simp
end Go.Av
end

section
namespace Go.Av
open Go Go.RowKit Go.Proofs
set_option linter.unusedSimpArgs false
set_option linter.unusedVariables false

theorem Split.other {i q : Idd} {us a b : List U} {k : U} (s : Split i us a k b) (hn : (U.idss us).Nodup) (hq : q ∈ k.ids) : Split q us a k b := by
  refine ⟨s.eq, hq, ?_, ?_, s.nd⟩
  · intro h
    rw [s.eq, U.idss_app, U.idss_cons] at hn
    exact (List.nodup_append.1 hn).2.2 q h q (List.mem_append.2 (.inl hq)) rfl
  · intro h
    rw [s.eq, U.idss_app, U.idss_cons] at hn
    exact (List.nodup_append.1 (List.nodup_append.1 hn).2.1).2.2 q hq q h rfl
theorem Split.ne {i q : Idd} {u k : U} {a b : List U} (hn : u.ids.Nodup) (s : Split i u.kids a k b) (hq : q ∈ k.ids) : u.id ≠ q := fun e => by
  refine (U.nd_kids hn).2 ?_
  rw [e, s.eq, U.idss_app, U.idss_cons]
  exact List.mem_append.2 (.inr (List.mem_append.2 (.inl hq)))

theorem wayPar_here {i : Idd} {u : U} (h : u.id = i) : wayPar i u = none := by unfold wayPar; rw [way_here h]; rfl
theorem wayPar_kid {i : Idd} {u k : U} {a b : List U} (h : u.id ≠ i) (s : Split i u.kids a k b) (hk : k.id = i) : wayPar i u = some (u, 0, a.length) := by
  unfold wayPar
  rw [s.way h, way_here hk]
  simp [s.no_way]
theorem wayPar_deep {i : Idd} {u k : U} {a b : List U} (h : u.id ≠ i) (s : Split i u.kids a k b) (hk : k.id ≠ i) : wayPar i u = (wayPar i k).map fun q => (q.1, q.2.1 + 1, q.2.2) := by
  have hkn : i ∈ U.idss k.kids := by
    have := s.mem
    rw [U.ids_eq, List.mem_cons] at this
    exact this.resolve_left (Ne.symm hk)
  obtain ⟨a2, k2, b2, s2⟩ := split_of (U.nd_kids s.nd).1 hkn
  unfold wayPar
  rw [s.way h, s2.way hk]
  have hne : U.way i k2 ≠ [] := way_yes.2 s2.mem
  obtain ⟨l, y, hl⟩ : ∃ l y, U.way i k2 = l ++ [y] := ⟨_, _, (List.dropLast_concat_getLast hne).symm⟩
  rw [hl]
  simp only [List.reverse_cons, List.reverse_append, List.reverse_nil, List.nil_append, List.cons_append, List.append_assoc]
  cases hr : l.reverse <;> simp

structure Par (i : Idd) (u p : U) (d j : Nat) : Prop where
  path : U.way i u = U.way p.id u ++ [(U.way i u).getLastD p]
  deep : (U.way p.id u).length = d + 1
  last : (U.way p.id u).getLast? = some p
  mem : p.id ∈ u.ids
  ne : u.id ≠ i
  nd : p.ids.Nodup
  split : ∃ a k b, Split i p.kids a k b ∧ k.id = i ∧ j = a.length ∧ (U.way i u).getLast? = some k
theorem way_parent {i : Idd} (u : U) (hn : u.ids.Nodup) (hi : i ∈ u.ids) : ∀ {p d j}, wayPar i u = some (p, d, j) → Par i u p d j := by
  refine U.wayInd (i := i) (p := fun u => ∀ {p d j}, wayPar i u = some (p, d, j) → Par i u p d j) ?_ ?_ u hn hi
  · intro u _ h p d j e
    rw [wayPar_here h] at e; cases e
  · intro u a k b hn h s ih p d j e
    by_cases hk : k.id = i
    · rw [wayPar_kid h s hk] at e
      injection e with e
      injection e with e1 e2
      injection e2 with e2 e3
      subst e1 e2 e3
      have hw : U.way i u = [u, k] := by rw [s.way h, way_here hk]
      refine ⟨?_, ?_, ?_, id_mem u, h, hn, a, k, b, s, hk, rfl, ?_⟩
      · rw [hw, way_here rfl]; rfl
      · rw [way_here rfl]; rfl
      · rw [way_here rfl]; rfl
      · rw [hw]; rfl
    · rw [wayPar_deep h s hk] at e
      obtain ⟨⟨p', d', j'⟩, e', e2⟩ := Option.map_eq_some_iff.1 e
      injection e2 with e1 e2
      injection e2 with e2 e3
      subst e1 e2 e3
      obtain ⟨h1, h2, h3, h4, h5, h6, a', k', b', s', hk', hj, hl⟩ := ih e'
      have sp := s.other (U.nd_kids hn).1 h4
      have hu := Split.ne hn s h4
      have hwne : U.way i k ≠ [] := way_yes.2 s.mem
      have hpne : U.way p'.id k ≠ [] := way_yes.2 h4
      refine ⟨?_, ?_, ?_, ?_, h, h6, a', k', b', s', hk', hj, ?_⟩
      · rw [s.way h, sp.way hu, h1]
        simp [List.getLastD_cons, List.getLast?_cons]
      · rw [sp.way hu, List.length_cons, h2]
      · rw [sp.way hu, List.getLast?_cons, h3]; rfl
      · rw [U.ids_eq]
        refine List.mem_cons_of_mem _ ?_
        rw [s.eq, U.idss_app, U.idss_cons]
        exact List.mem_append.2 (.inr (List.mem_append.2 (.inl h4)))
      · rw [s.way h, List.getLast?_cons, hl]; rfl

/-! ### a way in a tree of which one unit was changed -/
theorem orW_map (g : U → U) (p q : List U) : (orW p q).map g = orW (p.map g) (q.map g) := by cases p <;> simp [orW]
theorem consW_map (g : U → U) (u : U) (p : List U) : (consW u p).map g = consW (g u) (p.map g) := by cases p <;> simp [consW]
theorem ways_sub_of {t : Idd} {us : List U} (h : ∀ k ∈ us, ∀ v ∈ U.way t k, ∀ q ∈ v.ids, q ∈ k.ids) : ∀ v ∈ U.ways t us, ∀ q ∈ v.ids, q ∈ U.idss us := by
  induction us with
  | nil => intro v hv; rw [U.ways_nil] at hv; cases hv
  | cons u us ih =>
    intro v hv q hq
    rw [U.ways_cons] at hv
    rw [U.idss_cons, List.mem_append]
    cases hw : U.way t u with
    | nil =>
      rw [hw] at hv
      exact .inr (ih (fun k hk => h k (by simp [hk])) v hv q hq)
    | cons x l =>
      rw [hw] at hv
      exact .inl (h u (by simp) v (by rw [hw]; exact hv) q hq)
theorem way_sub {t : Idd} : ∀ u : U, ∀ v ∈ U.way t u, ∀ q ∈ v.ids, q ∈ u.ids := by
  refine U.ind fun u ih v hv q hq => ?_
  rw [U.way_eq] at hv
  split at hv
  · simp only [List.mem_singleton] at hv; subst hv; exact hq
  · cases hw : U.ways t u.kids with
    | nil => rw [hw] at hv; cases hv
    | cons x l =>
      rw [hw] at hv
      rcases List.mem_cons.1 hv with rfl | hv
      · exact hq
      · rw [U.ids_eq]
        exact List.mem_cons_of_mem _ (ways_sub_of ih v (by rw [hw]; exact hv) q hq)
theorem map_no {j t : Idd} {f : U → U} {us : List U} (h : j ∉ U.idss us) : (U.ways t us).map (U.wth j f) = U.ways t us := by
  conv => rhs; rw [← List.map_id (U.ways t us)]
  refine List.map_congr_left fun v hv => ?_
  exact wth_no fun hq => h (ways_sub_of (fun k _ => way_sub k) v hv j hq)
theorem map_no1 {j t : Idd} {f : U → U} {u : U} (h : j ∉ u.ids) : (U.way t u).map (U.wth j f) = U.way t u := by
  conv => rhs; rw [← List.map_id (U.way t u)]
  refine List.map_congr_left fun v hv => ?_
  exact wth_no fun hq => h (way_sub u v hv j hq)
theorem flats_of {us : List U} {k y : U} (hk : k ∈ us) (hy : y ∈ k.flat) : y ∈ U.flats us := by
  induction us with
  | nil => cases hk
  | cons u us ih =>
    rw [U.flats, List.mem_append]
    rcases List.mem_cons.1 hk with rfl | hk
    · exact .inl hy
    · exact .inr (ih hk)
theorem ways_wths_of {j t : Idd} {f : U → U} {us : List U} (hn : (U.idss us).Nodup) (h : ∀ k ∈ us, k.ids.Nodup → U.way t (U.wth j f k) = (U.way t k).map (U.wth j f)) : U.ways t (U.wths j f us) = (U.ways t us).map (U.wth j f) := by
  induction us with
  | nil => rw [U.wths_nil, U.ways_nil]; rfl
  | cons u us ih =>
    rw [U.idss_cons] at hn
    obtain ⟨n1, n2, n3⟩ := List.nodup_append.1 hn
    rw [U.wths_cons, U.ways_cons, orW_map]
    split
    · rename_i hw
      rw [U.ways_cons, ih n2 fun k hk => h k (by simp [hk]), map_no1 ((way_no u).1 hw)]
    · rename_i hw
      have hj := way_yes.1 hw
      rw [U.ways_cons, h u (by simp) n1, map_no fun hm => n3 j hj j hm rfl]
theorem way_wth {j t : Idd} {f : U → U} : ∀ u : U, u.ids.Nodup → (∀ y ∈ u.flat, y.id = j → (f y).id = y.id ∧ U.ways t (f y).kids = U.ways t y.kids) → U.way t (U.wth j f u) = (U.way t u).map (U.wth j f) := by
  refine U.ind fun u ih hn hf => ?_
  obtain ⟨n1, n2⟩ := U.nd_kids hn
  by_cases hj : u.id = j
  · obtain ⟨f1, f2⟩ := hf u (by rw [U.flat_eq]; simp) hj
    rw [wth_here hj, U.way_eq, U.way_eq, f1]
    split
    · simp [wth_here hj]
    · rw [f2, consW_map, wth_here hj, map_no (by rw [← hj]; exact n2)]
  · rw [U.wth_eq, if_neg hj, U.way_eq, U.way_eq]
    simp only
    split
    · simp only [List.map_cons, List.map_nil]
      rw [U.wth_eq, if_neg hj]
    · rw [consW_map, ways_wths_of n1 fun k hk hnk => ih k hk hnk fun y hy => hf y (by rw [U.flat_eq]; exact List.mem_cons_of_mem _ (flats_of hk hy))]
      rw [U.wth_eq, if_neg hj]
end Go.Av
end

section
namespace Go.Av
open Go Go.RowKit Go.Proofs
set_option linter.unusedSimpArgs false
set_option linter.unusedVariables false

structure Dd where
  act : Int
  item : Int
  day : Int
  it : Itm
def noU : U := ⟨⟨0, 0, 0⟩, 0, [], [], [], []⟩
def fnd (i : Idd) (u : U) : U := (U.way i u).getLastD noU
def markW (a b : Int) : List (List UInt8) → Int → List Wd
  | [], _ => []
  | s :: l, m => ⟨s, a, b, m⟩ :: markW a b l (m + 1)
mutual
def U.stamp (a b : Int) : U → Int → Int → U × Int × Int
  | ⟨_, k, l, h, w, ks⟩, n, m =>
    (⟨⟨a, b, n⟩, k, l, markW a b (h.map Wd.text) m, markW a b (w.map Wd.text) (m + h.length), (U.stamps a b ks (n + 1) (m + h.length + w.length)).1⟩, (U.stamps a b ks (n + 1) (m + h.length + w.length)).2)
def U.stamps (a b : Int) : List U → Int → Int → List U × Int × Int
  | [], n, m => ([], n, m)
  | u :: us, n, m => ((U.stamp a b u n m).1 :: (U.stamps a b us (U.stamp a b u n m).2.1 (U.stamp a b u n m).2.2).1, (U.stamps a b us (U.stamp a b u n m).2.1 (U.stamp a b u n m).2.2).2)
end
def stampU (u : U) (a b : Int) : U := (U.stamp a b u 1 0).1
def insAt (l : List U) (k : Nat) (x : U) : List U := l.take k ++ x :: l.drop k
def delAt (l : List U) (k : Nat) : List U := l.take k ++ l.drop (k + 1)
def taken (l : List U) (k : Int) (s : List UInt8) : Bool := l.any fun x => decide (x.kind = k) && decide (x.label = s)
def takes (p : U) (l : List U) (x : U) : Int := if nests p.kind x.kind = false then 9 else if taken l x.kind x.label then 10 else 0

/-! ### the program -/
def spot (u : U) (i : Idd) (wh : Int) : Option (Idd × Nat) :=
  if wh = 0 then some (i, 0) else if wh = 1 then some (i, (fnd i u).kids.length) else (wayPar i u).map fun q => (q.1.id, if wh = 2 then q.2.2 + 1 else q.2.2)
def insP (u : U) (i : Idd) (d : Dd) : U × Int := match spot u i d.it.wh with
  | none => (u, 9)
  | some (q, k) =>
    if takes (fnd q u) (fnd q u).kids (stampU d.it.unit d.act d.item) ≠ 0 then (u, takes (fnd q u) (fnd q u).kids (stampU d.it.unit d.act d.item))
    else if 64 ≤ (fnd q u).kids.length ∨ 8 < (U.way q u).length + (stampU d.it.unit d.act d.item).dep ∨ 1024 < u.cnt + (stampU d.it.unit d.act d.item).cnt then (u, 6)
    else if (stampU d.it.unit d.act d.item).ids.any (fun y => decide (y ∈ u.ids)) then (u, 5)
    else (U.wth q (fun y => { y with kids := insAt y.kids k (stampU d.it.unit d.act d.item) }) u, 0)
/-! ### the document -/
def parR (i : Idd) (u : U) : U × Nat × Nat := (U.par i u).getD (noU, 0, 0)
theorem fnd_last {i : Idd} {u y : U} (h : (U.way i u).getLast? = some y) : fnd i u = y := by unfold fnd; rw [List.getLastD_eq_getLast?, h]; rfl
theorem fnd_id {i : Idd} (u : U) (hn : u.ids.Nodup) (hi : i ∈ u.ids) : (fnd i u).id = i ∧ (U.way i u).getLast? = some (fnd i u) := by
  refine U.wayInd (i := i) (p := fun u => (fnd i u).id = i ∧ (U.way i u).getLast? = some (fnd i u)) ?_ ?_ u hn hi
  · intro u _ h
    have : fnd i u = u := fnd_last (by rw [way_here h]; rfl)
    rw [this]
    exact ⟨h, by rw [way_here h]; rfl⟩
  · intro u a k b _ h s ih
    have : (U.way i u).getLast? = some (fnd i k) := by rw [s.way h, List.getLast?_cons, ih.2]; rfl
    rw [fnd_last this]
    exact ⟨ih.1, this⟩
theorem par_some {i : Idd} {u : U} (hn : u.ids.Nodup) (hi : i ∈ u.ids) (hne : u.id ≠ i) : ∃ p d j, wayPar i u = some (p, d, j) ∧ parR i u = (p, d, j) ∧ Par i u p d j := by
  have : ∃ q, wayPar i u = some q := by
    rw [U.ids_eq, List.mem_cons] at hi
    obtain ⟨a, k, b, s⟩ := split_of (U.nd_kids hn).1 (hi.resolve_left (Ne.symm hne))
    have hl : U.way i k ≠ [] := way_yes.2 s.mem
    unfold wayPar
    rw [s.way hne]
    cases hr : (U.way i k).reverse with
    | nil => exact absurd (by simpa using hr) hl
    | cons x l =>
      rw [List.reverse_cons, hr]
      cases l <;> simp
  obtain ⟨⟨p, d, j⟩, e⟩ := this
  exact ⟨p, d, j, e, by unfold parR; rw [par_way u hn hi, e]; rfl, way_parent u hn hi e⟩
theorem Par.fnd {i : Idd} {u p : U} {d j : Nat} (h : Par i u p d j) : fnd p.id u = p := fnd_last h.last
theorem way_pos {i : Idd} {u : U} (hi : i ∈ u.ids) : 1 ≤ (U.way i u).length := by
  have := way_yes.2 hi
  cases h : U.way i u with
  | nil => exact absurd h this
  | cons _ _ => simp

end Go.Av
end

section
namespace Go.Av
open Go Go.RowKit Go.Proofs
set_option linter.unusedSimpArgs false
set_option linter.unusedVariables false

def without (i : Idd) (u : U) : U := match wayPar i u with
  | some (p, _, j) => U.wth p.id (fun y => { y with kids := delAt y.kids j }) u
  | none => u
def besides (wh : Int) : Bool := decide (wh = 2 ∨ wh = 3)
def under (u : U) (i t : Idd) : Bool := decide (t ≠ i) && (U.way t u).dropLast.any fun y => decide (y.id = i)
def goesP (u : U) (i t : Idd) (wh : Int) : Option (Idd × Nat) := match wayPar i u with
  | none => none
  | some (own, _, j) =>
    if under u i t = true ∨ t = i ∧ besides wh = false then none
    else if t = i then some (own.id, j)
    else (spot u t wh).map fun q => (q.1, if q.1 = own.id ∧ j < q.2 then q.2 - 1 else q.2)
def movP (u : U) (i t : Idd) (d : Dd) : U × Int := match goesP u i t d.it.wh with
  | none => (u, 9)
  | some (q, k) =>
    if takes (fnd q (without i u)) (fnd q (without i u)).kids (fnd i u) ≠ 0 then (u, takes (fnd q (without i u)) (fnd q (without i u)).kids (fnd i u))
    else if (q ≠ (parR i u).1.id ∧ 64 ≤ (fnd q (without i u)).kids.length) ∨ 8 < (U.way q (without i u)).length + (fnd i u).dep then (u, 6)
    else (U.wth q (fun y => { y with kids := insAt y.kids k (fnd i u) }) (without i u), 0)

theorem delAt_split {a b : List U} {k : U} : delAt (a ++ k :: b) a.length = a ++ b := by
  unfold delAt
  rw [List.take_left' rfl, ← List.singleton_append, ← List.append_assoc, List.drop_left' (by simp)]
theorem ways_del {t : Idd} {a b : List U} {k : U} (h : t ∉ k.ids) : U.ways t (a ++ b) = U.ways t (a ++ k :: b) := by
  rw [ways_app, ways_app, U.ways_cons, (way_no k).2 h]
  rfl
theorem map_one {α β : Type} {f : α → β} : ∀ {l : List α}, (l.map f).Nodup → ∀ {x y}, x ∈ l → y ∈ l → f x = f y → x = y
  | [], _, _, _, hx, _, _ => by cases hx
  | a :: l, hn, x, y, hx, hy, e => by
    rw [List.map_cons, List.nodup_cons] at hn
    rcases List.mem_cons.1 hx with rfl | hx' <;> rcases List.mem_cons.1 hy with rfl | hy'
    · rfl
    · exact absurd (List.mem_map.2 ⟨y, hy', e.symm⟩) hn.1
    · exact absurd (List.mem_map.2 ⟨x, hx', e⟩) hn.1
    · exact map_one hn.2 hx' hy' e
theorem same_id {u x y : U} (hn : u.ids.Nodup) (hx : x ∈ u.flat) (hy : y ∈ u.flat) (h : x.id = y.id) : x = y := map_one hn hx hy h
theorem fndm_flat {i : Idd} (u : U) (hn : u.ids.Nodup) (hi : i ∈ u.ids) : fnd i u ∈ u.flat := by
  refine U.wayInd (i := i) (p := fun u => fnd i u ∈ u.flat) ?_ ?_ u hn hi
  · intro u _ h
    rw [fnd_last (y := u) (by rw [way_here h]; rfl), U.flat_eq]; simp
  · intro u a k b _ h s ih
    have : fnd i u = fnd i k := by unfold fnd; rw [s.way h]; have := way_pos s.mem; cases hk : U.way i k <;> simp_all [List.getLastD_cons]
    rw [this, U.flat_eq]
    exact List.mem_cons_of_mem _ (flats_of (by rw [s.eq]; simp) ih)
end Go.Av
end

section
namespace Go.Av
open Go Go.RowKit Go.Proofs
set_option linter.unusedSimpArgs false
set_option linter.unusedVariables false

theorem Split.mem_ids {i q : Idd} {u k : U} {a b : List U} (s : Split i u.kids a k b) (hq : q ∈ k.ids) : q ∈ u.ids := by
  rw [U.ids_eq, s.eq, U.idss_app, U.idss_cons]
  exact List.mem_cons_of_mem _ (List.mem_append.2 (.inr (List.mem_append.2 (.inl hq))))
theorem Split.fnd {i q : Idd} {u k : U} {a b : List U} (hn : u.ids.Nodup) (s : Split i u.kids a k b) (hq : q ∈ k.ids) : fnd q u = fnd q k := by
  have sq := s.other (U.nd_kids hn).1 hq
  exact fnd_last (by rw [sq.way (Split.ne hn s hq), List.getLast?_cons, (fnd_id k s.nd hq).2]; rfl)
theorem fnd_sub {i q : Idd} {u : U} (hn : u.ids.Nodup) (hi : i ∈ u.ids) (hq : q ∈ (fnd i u).ids) : q ∈ u.ids := by
  have := (fnd_id u hn hi).2
  exact way_sub u _ (List.mem_of_getLast? this) q hq
theorem way_through {i t : Idd} (u : U) (hn : u.ids.Nodup) (ht : t ∈ u.ids) (hi : i ∈ u.ids) : (∃ y ∈ U.way t u, y.id = i) ↔ t ∈ (fnd i u).ids := by
  revert hi
  refine U.wayInd (i := t) (p := fun u => i ∈ u.ids → ((∃ y ∈ U.way t u, y.id = i) ↔ t ∈ (fnd i u).ids)) ?_ ?_ u hn ht
  · intro u hn h hi
    rw [way_here h]
    constructor
    · rintro ⟨y, hy, e⟩
      simp only [List.mem_singleton] at hy
      subst hy
      rw [fnd_last (y := y) (by rw [way_here e]; rfl), ← h]
      exact id_mem y
    · intro hm
      refine ⟨u, by simp, ?_⟩
      apply Classical.byContradiction
      intro hne
      rw [U.ids_eq, List.mem_cons] at hi
      obtain ⟨a, k, b, s⟩ := split_of (U.nd_kids hn).1 (hi.resolve_left (Ne.symm hne))
      rw [s.fnd hn s.mem] at hm
      exact Split.ne hn s (fnd_sub s.nd s.mem hm) h
  · intro u a k b hn h s ih hi
    rw [s.way h]
    by_cases hu : u.id = i
    · rw [fnd_last (y := u) (by rw [way_here hu]; rfl)]
      exact ⟨fun _ => s.mem_ids s.mem, fun _ => ⟨u, by simp, hu⟩⟩
    · by_cases hik : i ∈ k.ids
      · rw [s.fnd hn hik, ← ih hik]
        constructor
        · rintro ⟨y, hy, e⟩
          rcases List.mem_cons.1 hy with rfl | hy
          · exact absurd e hu
          · exact ⟨y, hy, e⟩
        · rintro ⟨y, hy, e⟩
          exact ⟨y, List.mem_cons_of_mem _ hy, e⟩
      · constructor
        · rintro ⟨y, hy, e⟩
          rcases List.mem_cons.1 hy with rfl | hy
          · exact absurd e hu
          · exact absurd (way_sub k y hy i (by rw [← e]; exact id_mem y)) hik
        · intro hm
          exfalso
          rw [U.ids_eq, List.mem_cons] at hi
          obtain ⟨a', k', b', s'⟩ := split_of (U.nd_kids hn).1 (hi.resolve_left (Ne.symm hu))
          rw [s'.fnd hn s'.mem] at hm
          have st := s'.other (U.nd_kids hn).1 (fnd_sub s'.nd s'.mem hm)
          have hk : k ∈ a' ++ k' :: b' := by rw [← s'.eq, s.eq]; simp
          rcases List.mem_append.1 hk with hk | hk
          · exact st.left (idss_mem hk s.mem)
          · rcases List.mem_cons.1 hk with rfl | hk
            · exact hik s'.mem
            · exact st.right (idss_mem hk s.mem)
theorem way_last {t : Idd} (u : U) (hn : u.ids.Nodup) (ht : t ∈ u.ids) : U.way t u = (U.way t u).dropLast ++ [fnd t u] := by
  have h := (fnd_id u hn ht).2
  have hne : U.way t u ≠ [] := way_yes.2 ht
  rw [List.getLast?_eq_some_getLast hne] at h
  injection h with h
  conv => lhs; rw [← List.dropLast_concat_getLast hne, h]
theorem under_iff {i t : Idd} (u : U) (hn : u.ids.Nodup) (ht : t ∈ u.ids) (hi : i ∈ u.ids) : under u i t = true ↔ t ≠ i ∧ t ∈ (fnd i u).ids := by
  unfold under
  rw [Bool.and_eq_true, decide_eq_true_eq, List.any_eq_true, ← way_through u hn ht hi]
  refine and_congr_right fun hne => ?_
  constructor
  · rintro ⟨y, hy, e⟩
    exact ⟨y, List.dropLast_subset _ hy, by simpa using e⟩
  · rintro ⟨y, hy, e⟩
    rw [way_last u hn ht] at hy
    rcases List.mem_append.1 hy with hy | hy
    · exact ⟨y, hy, by simpa using e⟩
    · simp only [List.mem_singleton] at hy
      subst hy
      exact absurd ((fnd_id u hn ht).1.symm.trans e) hne
/-! ### a tree of which one unit's child was taken -/
section
variable {u own x : U} {i : Idd} {d : Nat} {a b : List U}
theorem node_eq {u own : U} (hn : u.ids.Nodup) (ho : fnd own.id u = own) (hm : own.id ∈ u.ids) {y : U} (hy : y ∈ u.flat) (e : y.id = own.id) : y = own := by
  rw [← ho]
  exact same_id hn hy (fndm_flat u hn hm) (by rw [ho]; exact e)
theorem way_out {t : Idd} (hn : u.ids.Nodup) (hp : Par i u own d a.length) (hk : own.kids = a ++ x :: b) (ht : t ∉ x.ids) :
    U.way t (U.wth own.id (fun y => { y with kids := delAt y.kids a.length }) u) = (U.way t u).map (U.wth own.id fun y => { y with kids := delAt y.kids a.length }) :=
  way_wth u hn fun y hy e => by
    have e2 := node_eq hn hp.fnd hp.mem hy e
    subst e2
    refine ⟨rfl, ?_⟩
    simp only
    rw [hk, delAt_split, ways_del ht]
theorem wth_key {β : Type} {j : Idd} {f : U → U} (key : U → β) (h1 : ∀ y, key (f y) = key y) (h2 : ∀ y ks, key { y with kids := ks } = key y) (y : U) : key (U.wth j f y) = key y := by
  rw [U.wth_eq]
  split
  · exact h1 y
  · exact h2 y _
end
end Go.Av
end
