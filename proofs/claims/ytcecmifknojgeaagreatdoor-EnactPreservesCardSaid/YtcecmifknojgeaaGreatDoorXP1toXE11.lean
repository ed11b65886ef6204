/-
  LINT, plain laws: trees as the reference sees them and as the program does.
-/
import Derived.Test.YtcecmifknojgeaaGreatDoorXL19toXOpI
import Derived.Test.YtcecmifknojgeaaGreatDoorXE6toXE9
section
namespace Go.Av
open Go Go.RowKit Go.Proofs
set_option linter.unusedSimpArgs false
set_option linter.unusedVariables false

theorem all_congr' {α : Type} {p q : α → Bool} : ∀ {l : List α}, (∀ x ∈ l, p x = q x) → l.all p = l.all q
  | [], _ => rfl
  | x :: l, h => by rw [List.all_cons, List.all_cons, h x (by simp), all_congr' fun y hy => h y (by simp [hy])]
theorem flats_all (p : U → Bool) : ∀ us : List U, (U.flats us).all p = us.all fun k => k.flat.all p
  | [] => by rw [flats_nil]; rfl
  | u :: us => by rw [flats_cons, List.all_append, flats_all p us, List.all_cons]
theorem flat_all (p : U → Bool) (u : U) : u.flat.all p = (p u && u.kids.all fun k => k.flat.all p) := by rw [U.flat_eq, List.all_cons, flats_all]

/-! ### trees that stand right -/
theorem rights_all (k : Int) : ∀ us : List U, U.rights k us = ((us.all fun x => nests k x.kind) && us.all U.right)
  | [] => by rw [U.rights]; rfl
  | u :: us => by
    rw [U.rights, rights_all k us, List.all_cons, List.all_cons]
    cases nests k u.kind <;> cases u.right <;> simp
theorem rowOk_nil : rowOk [] = true := by decide
theorem aloneOk_own (u : U) : aloneOk u = (own1 u && decide ((u.kids.length : Int) ≤ 64)) := by
  unfold aloneOk own1
  by_cases hk : u.kind = 0
  · rw [if_pos hk, if_pos hk, Bool.eq_iff_iff]
    simp only [Bool.and_eq_true, decide_eq_true_eq]
    constructor
    · rintro ⟨⟨_, _, h3, _, _⟩, h6⟩; exact ⟨h6, h3⟩
    · rintro ⟨⟨h6, h7, h8⟩, h3⟩
      have e1 : u.head = [] := List.length_eq_zero_iff.1 (by omega)
      have e2 : u.words = [] := List.length_eq_zero_iff.1 (by omega)
      exact ⟨⟨by omega, by omega, h3, by rw [e1]; exact rowOk_nil, by rw [e2]; exact rowOk_nil⟩, h6, h7, h8⟩
  · rw [if_neg hk, if_neg hk, Bool.eq_iff_iff]
    simp only [Bool.and_eq_true, decide_eq_true_eq]
    constructor
    · rintro ⟨⟨h1, h2, h3, h4, h5⟩, h6⟩; exact ⟨⟨⟨h1, h2⟩, h6, h4, h5⟩, h3⟩
    · rintro ⟨⟨⟨h1, h2⟩, h6, h4, h5⟩, h3⟩; exact ⟨⟨h1, h2, h3, h4, h5⟩, h6⟩
theorem right_flat : ∀ u : U, u.right = u.flat.all nodeOk := by
  refine U.ind fun u ih => ?_
  rw [U.right_eq, flat_all, rights_all, aloneOk_own, all_congr' ih, show nodeOk u = (own1 u && ((u.kids.all fun k => nests u.kind k.kind) && decide (Apart u.kids) && decide ((u.kids.length : Int) ≤ 64))) from rfl]
  generalize own1 u = a, (u.kids.all fun x => nests u.kind x.kind) = b, decide (Apart u.kids) = c, decide ((u.kids.length : Int) ≤ 64) = d, (u.kids.all fun k => k.flat.all nodeOk) = e
  cases a <;> cases b <;> cases c <;> cases d <;> cases e <;> rfl
theorem treeOk_two (u : U) : treeOk u = treeOk2 u := by unfold treeOk treeOk2; rw [right_flat]

/-! ### bare trees -/
theorem map_fix {α : Type} {f : α → α} : ∀ {l : List α}, l = l.map f ↔ ∀ x ∈ l, x = f x
  | [] => by simp
  | x :: l => by simp [map_fix (f := f) (l := l)]
theorem wd_bare (w : Wd) : w = w.bare ↔ marked w = false := by
  obtain ⟨t, a, b, c⟩ := w
  simp [Wd.bare, marked]
theorem bare_list (l : List Wd) : l = l.map Wd.bare ↔ l.any marked = false := by
  rw [map_fix, List.any_eq_false]
  constructor <;> intro h x hx
  · have := (wd_bare x).1 (h x hx); simp [this]
  · exact (wd_bare x).2 (by simpa using h x hx)
theorem strip_fix : ∀ u : U, (u = u.strip) ↔ u.flat.all bareNode = true := by
  refine U.ind fun u ih => ?_
  rw [flat_all, Bool.and_eq_true, List.all_eq_true, U.strip_eq, show bareNode u = (decide (u.id = zId) && (!u.head.any marked && !u.words.any marked)) from rfl]
  simp only [Bool.and_eq_true, decide_eq_true_eq, Bool.not_eq_true']
  rw [← bare_list, ← bare_list]
  have hk : u.kids = u.kids.map U.strip ↔ ∀ k ∈ u.kids, k.flat.all bareNode = true := by
    rw [map_fix]
    exact ⟨fun h k hk => (ih k hk).1 (h k hk), fun h k hk => (ih k hk).2 (h k hk)⟩
  rw [← hk]
  obtain ⟨i, k, l, h, w, ks⟩ := u
  simp only [U.mk.injEq, true_and, zId]
  constructor
  · rintro ⟨a, b, c, d⟩; exact ⟨⟨a, b, c⟩, d⟩
  · rintro ⟨⟨a, b, c⟩, d⟩; exact ⟨a, b, c, d⟩
theorem bareOk_two (u : U) : bareOk u = bareOk2 u := by
  unfold bareOk bareOk2
  rw [treeOk_two]
  congr 1
  rw [Bool.eq_iff_iff, decide_eq_true_eq, strip_fix]

/-! ### shapes -/
theorem alone_own (u : U) : alone11 u = own1 u := by
  unfold alone11 own1
  by_cases hk : u.kind = 0
  · rw [if_pos hk, if_pos hk]
  · rw [if_neg hk, if_neg hk]
    have : decide (0 < u.kind) = decide (0 ≤ u.kind) := by rw [decide_eq_decide]; omega
    rw [this, Bool.and_assoc]
theorem shapes_all (d k : Int) : ∀ us : List U, U.shapes d k us = ((us.all fun x => nests k x.kind) && us.all fun x => x.shape d)
  | [] => by rw [U.shapes]; rfl
  | u :: us => by
    rw [U.shapes, shapes_all d k us, List.all_cons, List.all_cons]
    cases nests k u.kind <;> cases u.shape d <;> simp
theorem nests_ne0 {p k : Int} (h : nests p k = true) : k ≠ 0 := by
  unfold nests at h
  (repeat' split at h) <;> simp at h <;> omega
theorem deps_le (us : List U) (d : Int) : d + U.deps us ≤ 8 ↔ d ≤ 8 ∧ ∀ k ∈ us, d + 1 + k.dep ≤ 8 := by
  induction us with
  | nil => simp [U.deps_nil]
  | cons u us ih =>
    rw [U.deps_cons]
    constructor
    · intro h
      have h2 := ih.1 (by omega)
      refine ⟨h2.1, fun k hk => ?_⟩
      rcases List.mem_cons.1 hk with rfl | hk
      · omega
      · exact h2.2 k hk
    · rintro ⟨h1, h2⟩
      have a1 := h2 u (by simp)
      have a2 := ih.2 ⟨h1, fun k hk => h2 k (by simp [hk])⟩
      omega
theorem shape_flat : ∀ (u : U) (d : Int), 0 ≤ d → u.shape d = (u.flat.all nodeOk && (decide (d + u.dep ≤ 8) && !(decide (0 < d) && decide (u.kind = 0)))) := by
  refine U.ind fun u ih d hd => ?_
  rw [U.shape_eq, flat_all, shapes_all, alone_own, all_congr' fun k hk => ih k hk (d + 1) (by omega), U.dep_eq]
  rw [Bool.eq_iff_iff, show nodeOk u = (own1 u && ((u.kids.all fun k => nests u.kind k.kind) && decide (Apart u.kids) && decide ((u.kids.length : Int) ≤ 64))) from rfl]
  simp only [Bool.and_eq_true, decide_eq_true_eq, List.all_eq_true, Bool.not_eq_true', Bool.and_eq_false_iff, decide_eq_false_iff_not, deps_le]
  constructor
  · rintro ⟨⟨⟨a1, a2⟩, a3, a4⟩, ⟨a5, a6⟩, a7⟩
    exact ⟨⟨⟨a3, ⟨a5, a7⟩, a4⟩, fun k hk => (a6 k hk).1⟩, ⟨a1, fun k hk => (a6 k hk).2.1⟩, a2⟩
  · rintro ⟨⟨⟨a3, ⟨a5, a7⟩, a4⟩, a8⟩, ⟨a1, a9⟩, a2⟩
    exact ⟨⟨⟨a1, a2⟩, a3, a4⟩, ⟨a5, fun k hk => ⟨a8 k hk, a9 k hk, .inr (nests_ne0 (a5 k hk))⟩⟩, a7⟩

/-! ### stripped trees -/
theorem flats_strip_of : ∀ us : List U, (∀ k ∈ us, k.strip.flat = k.flat.map U.strip) → U.flats (us.map U.strip) = (U.flats us).map U.strip
  | [], _ => by rw [List.map_nil, flats_nil]; rfl
  | u :: us, h => by rw [List.map_cons, flats_cons, flats_cons, List.map_append, h u (by simp), flats_strip_of us fun k hk => h k (by simp [hk])]
theorem flat_strip : ∀ u : U, u.strip.flat = u.flat.map U.strip := by
  refine U.ind fun u ih => ?_
  rw [U.flat_eq, U.flat_eq, List.map_cons]
  congr 1
  rw [U.strip_eq]
  exact flats_strip_of _ ih
theorem strip_kind (u : U) : u.strip.kind = u.kind := by rw [U.strip_eq]
theorem strip_label (u : U) : u.strip.label = u.label := by rw [U.strip_eq]
theorem rowOk_bare (l : List Wd) : rowOk (l.map Wd.bare) = rowOk l := by
  unfold rowOk
  rw [List.length_map, List.all_map]
  rfl
theorem own_strip (u : U) : own1 u.strip = own1 u := by
  rw [U.strip_eq]
  unfold own1
  simp only [List.length_map, rowOk_bare]
theorem apart_strip (l : List U) : Apart (l.map U.strip) = Apart l := by
  unfold Apart
  rw [List.map_map]
  congr 1
  refine List.map_congr_left fun k _ => ?_
  simp only [Function.comp, strip_kind, strip_label]
theorem nodeOk_strip (u : U) : nodeOk u.strip = nodeOk u := by
  have h : u.strip.kids = u.kids.map U.strip := by rw [U.strip_eq]
  unfold nodeOk
  rw [own_strip, h, List.all_map, List.length_map, strip_kind]
  simp only [apart_strip]
  congr 3
  exact all_congr' fun k _ => by simp only [Function.comp, strip_kind]
theorem deps_strip : ∀ us : List U, (∀ k ∈ us, k.strip.dep = k.dep) → U.deps (us.map U.strip) = U.deps us
  | [], _ => rfl
  | u :: us, h => by rw [List.map_cons, U.deps_cons, U.deps_cons, h u (by simp), deps_strip us fun k hk => h k (by simp [hk])]
theorem dep_strip : ∀ u : U, u.strip.dep = u.dep := by
  refine U.ind fun u ih => ?_
  rw [U.dep_eq, U.dep_eq, show u.strip.kids = u.kids.map U.strip by rw [U.strip_eq]]
  exact deps_strip _ ih
theorem cnt_strip (u : U) : u.strip.cnt = u.cnt := by unfold U.cnt; rw [flat_strip, List.length_map]
theorem ids_strip (u : U) : idsOk u.strip = true := by
  unfold idsOk U.ids
  rw [flat_strip]
  simp only [Bool.or_eq_true, List.all_eq_true, List.map_map]
  left
  intro x hx
  obtain ⟨y, _, rfl⟩ := List.mem_map.1 hx
  simp [Function.comp, U.strip_eq, zId]
theorem tree_strip (u : U) : treeOk2 u.strip = shapeOk u := by
  unfold treeOk2 shapeOk
  rw [shape_flat u 0 (by omega), flat_strip, List.all_map, dep_strip, cnt_strip, ids_strip, all_congr' (p := nodeOk ∘ U.strip) (q := nodeOk) fun x _ => nodeOk_strip x]
  simp [Bool.and_assoc]

def U.lone (u : U) : U := ⟨zId, u.kind, u.label, u.head, u.words, []⟩
theorem tree_lone (u : U) : treeOk2 u.lone.strip = alone11 u := by
  rw [tree_strip, alone_own]
  unfold shapeOk
  rw [shape_flat _ 0 (by omega), flat_all]
  have h1 : u.lone.dep = 0 := by rw [U.dep_eq]; rfl
  have h2 : u.lone.cnt = 1 := by rw [U.cnt_eq]; rfl
  rw [h1, h2]
  unfold nodeOk
  have : own1 u.lone = own1 u := rfl
  rw [this]
  simp [U.lone, Apart]
end Go.Av
end

section
namespace Go.Av
open Go Go.RowKit Go.Proofs
set_option linter.unusedSimpArgs false
set_option linter.unusedVariables false

structure Good (u : U) : Prop where
  nd : u.ids.Nodup
  node : ∀ y ∈ u.flat, nodeOk y = true
  dep : u.deep ≤ 8
  cnt : u.flat.length ≤ 1024
  root : u.kind = 0 ↔ u.id = zId
  zero : u.kind ≠ 0 → zId ∉ u.ids
theorem nests_pos {p k : Int} (h : nests p k = true) : k ≠ 0 := by
  rintro rfl
  unfold nests at h
  revert h
  split <;> (try split) <;> (try split) <;> (try split) <;> (try split) <;> simp
theorem nodeOk_nests {u : U} (h : nodeOk u = true) : ∀ k ∈ u.kids, nests u.kind k.kind = true := by
  unfold nodeOk at h
  simp only [Bool.and_eq_true] at h
  exact List.all_eq_true.1 h.2.1.1
theorem nodeOk_few {u : U} (h : nodeOk u = true) : u.kids.length ≤ 64 := by
  unfold nodeOk at h
  simp only [Bool.and_eq_true, decide_eq_true_eq] at h
  have := h.2.2
  omega
theorem Good.kind {u : U} (h : Good u) {i : Idd} (hi : i ∈ u.ids) (hne : u.id ≠ i) : (fnd i u).kind ≠ 0 := by
  obtain ⟨own, d, j, w1, w2, hp⟩ := par_some h.nd hi hne
  obtain ⟨a, k, b, s, hk, hj, hl⟩ := hp.split
  have hown : own ∈ u.flat := by
    have := fndm_flat u h.nd hp.mem
    rw [hp.fnd] at this; exact this
  rw [fnd_last hl]
  exact nests_pos (nodeOk_nests (h.node own hown) k (by rw [s.eq]; simp))
theorem ids_root {u : U} {A x B : List Idd} (e : u.ids = A ++ (x ++ B)) (hA : A ≠ []) : ∃ A', A = u.id :: A' := by
  rw [U.ids_eq] at e
  cases A with
  | nil => exact absurd rfl hA
  | cons a A' => injection e with e1 e2; exact ⟨A', by rw [e1]⟩
structure Root (u v : U) : Prop where
  id : v.id = u.id
  kind : v.kind = u.kind
  label : v.label = u.label
  head : v.head = u.head
  words : v.words = u.words
theorem Root.refl (u : U) : Root u u := ⟨rfl, rfl, rfl, rfl, rfl⟩
theorem Root.trans {u v w : U} (h : Root u v) (g : Root v w) : Root u w := ⟨g.id.trans h.id, g.kind.trans h.kind, g.label.trans h.label, g.head.trans h.head, g.words.trans h.words⟩
theorem root_kids {u : U} {q : Idd} {g : List U → List U} : Root u (U.wth q (fun y => { y with kids := g y.kids }) u) :=
  ⟨wth_key (f := fun y => { y with kids := g y.kids }) U.id (fun _ => rfl) (fun _ _ => rfl) u, wth_key (f := fun y => { y with kids := g y.kids }) U.kind (fun _ => rfl) (fun _ _ => rfl) u, wth_key (f := fun y => { y with kids := g y.kids }) U.label (fun _ => rfl) (fun _ _ => rfl) u, wth_key (f := fun y => { y with kids := g y.kids }) U.head (fun _ => rfl) (fun _ _ => rfl) u, wth_key (f := fun y => { y with kids := g y.kids }) U.words (fun _ => rfl) (fun _ _ => rfl) u⟩
theorem root_inner {u : U} {i : Idd} {f : U → U} (h : u.id ≠ i) : Root u (U.wth i f u) := by
  rw [U.wth_eq, if_neg h]
  exact ⟨rfl, rfl, rfl, rfl, rfl⟩

theorem perm_ins (A x B : List Idd) : (A ++ (x ++ B)).Perm ((A ++ B) ++ x) := by
  rw [List.append_assoc]
  exact List.Perm.append_left A List.perm_append_comm
theorem ids_ins {u : U} (hn : u.ids.Nodup) {q : Idd} (hq : q ∈ u.ids) (k : Nat) (x : U) : ∃ A B, A ≠ [] ∧ u.ids = A ++ B ∧ (U.wth q (fun y => { y with kids := insAt y.kids k x }) u).ids = A ++ (x.ids ++ B) := by
  obtain ⟨l, r, e1, e2⟩ := ids_wth (f := fun y => { y with kids := insAt y.kids k x }) u hn hq
  refine ⟨l ++ ((fnd q u).id :: U.idss ((fnd q u).kids.take k)), U.idss ((fnd q u).kids.drop k) ++ r, by simp, ?_, ?_⟩
  · rw [e1, U.ids_eq]
    conv => lhs; rw [← List.take_append_drop k (fnd q u).kids]
    rw [U.idss_app]; simp [List.append_assoc]
  · rw [e2, U.ids_eq]
    unfold insAt
    simp only
    rw [U.idss_app, U.idss_cons]; simp [List.append_assoc]
theorem flat_ins {y x : U} {k : Nat} : ∀ z ∈ ({ y with kids := insAt y.kids k x } : U).flat, z = { y with kids := insAt y.kids k x } ∨ z ∈ U.flats y.kids ∨ z ∈ x.flat := by
  intro z hz
  rw [U.flat_eq] at hz
  simp only [insAt] at hz
  rw [flats_app, flats_cons, List.mem_cons, List.mem_append, List.mem_append] at hz
  have e : U.flats y.kids = U.flats (y.kids.take k) ++ U.flats (y.kids.drop k) := by rw [← flats_app, List.take_append_drop]
  rw [e, List.mem_append]
  rcases hz with hz | hz | hz | hz
  · exact .inl hz
  · exact .inr (.inl (.inl hz))
  · exact .inr (.inr hz)
  · exact .inr (.inl (.inr hz))
theorem deep_ins {y x : U} {k : Nat} : ({ y with kids := insAt y.kids k x } : U).deep ≤ max y.deep (1 + x.deep) := by
  rw [U.deep_eq, U.deep_eq y]
  unfold insAt
  simp only
  rw [deeps_app, U.deeps]
  have e : U.deeps y.kids = max (U.deeps (y.kids.take k)) (U.deeps (y.kids.drop k)) := by rw [← deeps_app, List.take_append_drop]
  omega
theorem good_ins {u : U} (h : Good u) {q : Idd} (hq : q ∈ u.ids) {x : U} (hx : ∀ z ∈ x.flat, nodeOk z = true) (hxn : (u.ids ++ x.ids).Nodup) (hz : zId ∉ x.ids) (k : Nat)
    (ht : ¬ takes (fnd q u) (fnd q u).kids x ≠ 0) (hl : (fnd q u).kids.length < 64) (hd : (U.way q u).length + x.deep ≤ 8) (hc : u.flat.length + x.flat.length ≤ 1024) : Good (U.wth q (fun y => { y with kids := insAt y.kids k x }) u) := by
  obtain ⟨A, B, hA, e1, e2⟩ := ids_ins h.nd hq k x
  have hp : (U.wth q (fun y => { y with kids := insAt y.kids k x }) u).ids.Perm (u.ids ++ x.ids) := by rw [e1, e2]; exact perm_ins A x.ids B
  have hr : Root u (U.wth q (fun y => { y with kids := insAt y.kids k x }) u) := root_kids (g := fun l => insAt l k x)
  have hf := fndm_flat u h.nd hq
  have hnf := h.node _ hf
  refine ⟨hp.nodup_iff.2 hxn, ?_, ?_, ?_, ?_, ?_⟩
  · refine nodes_wth (f := fun y => { y with kids := insAt y.kids k x }) (fun _ => rfl) u h.nd hq h.node ?_
    intro z hz
    rcases flat_ins z hz with rfl | hz | hz
    · have ht1 : nests (fnd q u).kind x.kind = true ∧ taken (fnd q u).kids x.kind x.label = false := by
        unfold takes at ht
        cases h1 : nests (fnd q u).kind x.kind <;> cases h2 : taken (fnd q u).kids x.kind x.label <;> simp [h1, h2] at ht ⊢
      unfold nodeOk at hnf ⊢
      simp only [Bool.and_eq_true, decide_eq_true_eq] at hnf ⊢
      have etd := List.take_append_drop k (fnd q u).kids
      refine ⟨hnf.1, ⟨?_, ?_⟩, ?_⟩
      · have := hnf.2.1.1
        rw [← etd, List.all_append] at this
        unfold insAt
        rw [List.all_append, List.all_cons, ht1.1, Bool.true_and]
        exact this
      · have := hnf.2.1.2
        unfold Apart at this ⊢
        unfold insAt
        have h2 := ht1.2
        unfold taken at h2
        rw [List.any_eq_false] at h2
        have hno : (x.kind, x.label) ∉ (fnd q u).kids.map fun k => (k.kind, k.label) := by
          intro hm
          obtain ⟨y, hy, e⟩ := List.mem_map.1 hm
          have := h2 y hy
          injection e with e3 e4
          simp [e3, e4] at this
        have hp2 : (((fnd q u).kids.take k ++ x :: (fnd q u).kids.drop k).map fun k => (k.kind, k.label)).Perm ((x.kind, x.label) :: (fnd q u).kids.map fun k => (k.kind, k.label)) := by
          have : ((fnd q u).kids.take k ++ x :: (fnd q u).kids.drop k).Perm (x :: (fnd q u).kids) := by
            have := List.perm_middle (a := x) (l₁ := (fnd q u).kids.take k) (l₂ := (fnd q u).kids.drop k)
            rw [etd] at this
            exact this
          exact this.map _
        exact hp2.nodup_iff.2 (List.nodup_cons.2 ⟨hno, this⟩)
      · unfold insAt
        have : ((fnd q u).kids.take k ++ x :: (fnd q u).kids.drop k).length = (fnd q u).kids.length + 1 := by
          conv => rhs; rw [← etd]
          simp; omega
        rw [this]; omega
    · exact h.node z (by
        have : z ∈ (fnd q u).flat := by rw [U.flat_eq]; exact List.mem_cons_of_mem _ hz
        obtain ⟨y, hy, hz⟩ := flats_split hz
        have hk := kid_flat hf hy
        have hsub : ∀ {v : U}, v ∈ u.flat → ∀ w ∈ v.flat, w ∈ u.flat := by
          intro v hv w hw
          revert hw
          revert hv
          revert w
          refine U.ind (p := fun v => ∀ w, v ∈ u.flat → w ∈ v.flat → w ∈ u.flat) (fun v ih w hv hw => ?_) v
          rw [U.flat_eq] at hw
          rcases List.mem_cons.1 hw with rfl | hw
          · exact hv
          · obtain ⟨y, hy, hw⟩ := flats_split hw
            exact ih y hy w (kid_flat hv hy) hw
        exact hsub hk z hz)
    · exact hx z hz
  · have := (deep_wth (f := fun y => { y with kids := insAt y.kids k x }) u h.nd hq)
    have h2 := deep_ins (y := fnd q u) (x := x) (k := k)
    have h3 := h.dep
    have h4 := way_pos hq
    omega
  · have := hp.length_eq
    rw [List.length_append, U.ids_len, U.ids_len, U.ids_len] at this
    omega
  · rw [hr.kind, hr.id]; exact h.root
  · intro hk hm
    rw [hr.kind] at hk
    have := hp.mem_iff.1 hm
    rcases List.mem_append.1 this with hm | hm
    · exact h.zero hk hm
    · exact hz hm
theorem flat_trans {u v : U} (hv : v ∈ u.flat) : ∀ w ∈ v.flat, w ∈ u.flat := by
  intro w hw
  revert hw
  revert hv
  revert w
  refine U.ind (p := fun v => ∀ w, v ∈ u.flat → w ∈ v.flat → w ∈ u.flat) (fun v ih w hv hw => ?_) v
  rw [U.flat_eq] at hw
  rcases List.mem_cons.1 hw with rfl | hw
  · exact hv
  · obtain ⟨y, hy, hw⟩ := flats_split hw
    exact ih y hy w (kid_flat hv hy) hw
theorem good_del {u : U} (h : Good u) {i : Idd} (hi : i ∈ u.ids) (hne : u.id ≠ i) : Good (without i u) ∧ Root u (without i u) ∧ (without i u).deep ≤ u.deep ∧ (∃ A B, A ≠ [] ∧ u.ids = A ++ ((fnd i u).ids ++ B) ∧ (without i u).ids = A ++ B) := by
  obtain ⟨own, d, j, w1, w2, hp⟩ := par_some h.nd hi hne
  obtain ⟨a, x, b, s, hx, hj, hl⟩ := hp.split
  have hfx : fnd i u = x := fnd_last hl
  subst hj
  have hW : without i u = U.wth own.id (fun y => { y with kids := delAt y.kids a.length }) u := by unfold without; rw [w1]
  rw [hW, hfx]
  obtain ⟨l, r, e1, e2⟩ := ids_wth (f := fun y => { y with kids := delAt y.kids a.length }) u h.nd hp.mem
  rw [hp.fnd] at e1 e2
  rw [s.eq, delAt_split] at e2
  have hids : ∃ A B, A ≠ [] ∧ u.ids = A ++ (x.ids ++ B) ∧ (U.wth own.id (fun y => { y with kids := delAt y.kids a.length }) u).ids = A ++ B := by
    refine ⟨l ++ (own.id :: U.idss a), U.idss b ++ r, by simp, ?_, ?_⟩
    · rw [e1, U.ids_eq, s.eq, U.idss_app, U.idss_cons]; simp [List.append_assoc]
    · rw [e2, U.ids_eq]
      simp only
      rw [U.idss_app]; simp [List.append_assoc]
  have hr : Root u (U.wth own.id (fun y => { y with kids := delAt y.kids a.length }) u) := root_kids (g := fun l => delAt l a.length)
  have hown : own ∈ u.flat := by
    have := fndm_flat u h.nd hp.mem
    rw [hp.fnd] at this; exact this
  obtain ⟨A, B, hA, f1, f2⟩ := hids
  have hsub : (U.wth own.id (fun y => { y with kids := delAt y.kids a.length }) u).ids.Sublist u.ids := by
    rw [f1, f2]
    exact (List.Sublist.refl A).append (List.sublist_append_right _ _)
  have hdp : (U.wth own.id (fun y => { y with kids := delAt y.kids a.length }) u).deep ≤ u.deep := by
    have h1 := (deep_wth (f := fun y => { y with kids := delAt y.kids a.length }) u h.nd hp.mem)
    rw [hp.fnd] at h1
    have h2 : ({ own with kids := delAt own.kids a.length } : U).deep ≤ own.deep := by
      rw [U.deep_eq, U.deep_eq own, s.eq]
      simp only
      rw [delAt_split, deeps_app, deeps_app, U.deeps]
      omega
    omega
  refine ⟨⟨h.nd.sublist hsub, ?_, Nat.le_trans hdp h.dep, ?_, ?_, ?_⟩, hr, hdp, A, B, hA, f1, f2⟩
  · refine nodes_wth (f := fun y => { y with kids := delAt y.kids a.length }) (fun _ => rfl) u h.nd hp.mem h.node ?_
    rw [hp.fnd]
    intro z hz
    rw [U.flat_eq] at hz
    simp only at hz
    rw [s.eq, delAt_split, flats_app, List.mem_cons, List.mem_append] at hz
    rcases hz with rfl | hz | hz
    · have hnf := h.node own hown
      unfold nodeOk at hnf ⊢
      simp only [Bool.and_eq_true, decide_eq_true_eq] at hnf ⊢
      rw [s.eq] at hnf
      refine ⟨hnf.1, ⟨?_, ?_⟩, ?_⟩
      · have := hnf.2.1.1
        rw [List.all_append, List.all_cons, Bool.and_eq_true, Bool.and_eq_true] at this
        rw [List.all_append, this.1, this.2.2]; rfl
      · have := hnf.2.1.2
        unfold Apart at this ⊢
        refine this.sublist (List.Sublist.map _ ?_)
        exact (List.Sublist.refl a).append (List.sublist_cons_self _ _)
      · have := hnf.2.2
        simp at this ⊢
        omega
    · obtain ⟨y, hy, hz⟩ := flats_split hz
      exact h.node z (flat_trans hown z (U.flat_kid (by rw [s.eq]; simp [hy]) hz))
    · obtain ⟨y, hy, hz⟩ := flats_split hz
      exact h.node z (flat_trans hown z (U.flat_kid (by rw [s.eq]; simp [hy]) hz))
  · have := hsub.length_le
    rw [U.ids_len, U.ids_len] at this
    exact Nat.le_trans this h.cnt
  · rw [hr.kind, hr.id]; exact h.root
  · intro hk hm
    rw [hr.kind] at hk
    exact h.zero hk (hsub.subset hm)
end Go.Av
end

section
namespace Go.Av
open Go Go.RowKit Go.Proofs
set_option linter.unusedSimpArgs false
set_option linter.unusedVariables false

/-! ### stamps -/
theorem U.stamp_eq (a b : Int) (u : U) (n m : Int) : U.stamp a b u n m = (⟨⟨a, b, n⟩, u.kind, u.label, markW a b (u.head.map Wd.text) m, markW a b (u.words.map Wd.text) (m + u.head.length), (U.stamps a b u.kids (n + 1) (m + u.head.length + u.words.length)).1⟩, (U.stamps a b u.kids (n + 1) (m + u.head.length + u.words.length)).2) := by
  cases u; rw [U.stamp]
theorem U.stamps_nil (a b : Int) (n m : Int) : U.stamps a b [] n m = ([], n, m) := by rw [U.stamps]
theorem U.stamps_cons (a b : Int) (u : U) (us : List U) (n m : Int) : U.stamps a b (u :: us) n m = ((U.stamp a b u n m).1 :: (U.stamps a b us (U.stamp a b u n m).2.1 (U.stamp a b u n m).2.2).1, (U.stamps a b us (U.stamp a b u n m).2.1 (U.stamp a b u n m).2.2).2) := by rw [U.stamps]
def idRow (a b n : Int) (k : Nat) : List Idd := (List.range k).map fun j : Nat => (⟨a, b, n + (j : Int)⟩ : Idd)
theorem idRow_app (a b n : Int) (k l : Nat) : idRow a b n (k + l) = idRow a b n k ++ idRow a b (n + k) l := by
  unfold idRow
  rw [List.range_add, List.map_append, List.map_map]
  congr 1
  refine List.map_congr_left fun j _ => ?_
  simp only [Function.comp]
  congr 1
  omega
theorem idRow_nd (a b n : Int) (k : Nat) : (idRow a b n k).Nodup := by
  unfold idRow
  refine List.pairwise_map.2 (List.Pairwise.imp (fun h e => h ?_) (List.nodup_range (n := k)))
  injection e with _ _ e
  omega
structure StampOk (a b : Int) (u : U) (n m : Int) (q : U × Int × Int) : Prop where
  ids : q.1.ids = idRow a b n u.flat.length
  next : q.2.1 = n + u.flat.length
  deep : q.1.deep = u.deep
  len : q.1.flat.length = u.flat.length
  key : q.1.key = u.key
  node : ∀ z ∈ q.1.flat, ∃ y ∈ u.flat, nodeOk z = nodeOk y
structure StampsOk (a b : Int) (us : List U) (n m : Int) (q : List U × Int × Int) : Prop where
  ids : U.idss q.1 = idRow a b n (U.flats us).length
  next : q.2.1 = n + (U.flats us).length
  deep : U.deeps q.1 = U.deeps us
  len : (U.flats q.1).length = (U.flats us).length
  key : q.1.map U.key = us.map U.key
  node : ∀ z ∈ U.flats q.1, ∃ y ∈ U.flats us, nodeOk z = nodeOk y
theorem rowOk_mark (a b : Int) (l : List Wd) (m : Int) : rowOk (markW a b (l.map Wd.text) m) = rowOk l ∧ (markW a b (l.map Wd.text) m).length = l.length := by
  have e1 : (markW a b (l.map Wd.text) m).length = l.length := by rw [markW_len, List.length_map]
  have e2 : ∀ (l : List Wd) (m : Int), (markW a b (l.map Wd.text) m).all wdOk = l.all wdOk := by
    intro l
    induction l with
    | nil => intro m; rfl
    | cons w l ih => intro m; rw [List.map_cons, markW, List.all_cons, List.all_cons, ih]; rfl
  unfold rowOk
  rw [e1, e2]
  exact ⟨rfl, rfl⟩
theorem stamps_of (a b : Int) : ∀ {us : List U}, (∀ k ∈ us, ∀ n m, StampOk a b k n m (U.stamp a b k n m)) → ∀ n m, StampsOk a b us n m (U.stamps a b us n m)
  | [], _, n, m => by
    rw [U.stamps_nil]
    refine ⟨?_, ?_, rfl, rfl, rfl, ?_⟩
    · rw [U.idss_nil, flats_nil]; rfl
    · rw [flats_nil]; simp
    · intro z hz; rw [flats_nil] at hz; cases hz
  | u :: us, h, n, m => by
    obtain ⟨i1, x1, d1, l1, k1, n1⟩ := h u (by simp) n m
    have ih := stamps_of a b (us := us) (fun k hk => h k (by simp [hk])) (U.stamp a b u n m).2.1 (U.stamp a b u n m).2.2
    obtain ⟨i2, x2, d2, l2, k2, n2⟩ := ih
    rw [U.stamps_cons]
    refine ⟨?_, ?_, ?_, ?_, ?_, ?_⟩
    · simp only
      rw [U.idss_cons, i1, i2, x1, flats_cons, List.length_append, idRow_app]
    · simp only
      rw [x2, x1, flats_cons, List.length_append]; omega
    · simp only
      rw [U.deeps, U.deeps, d1, d2]
    · simp only
      rw [flats_cons, flats_cons, List.length_append, List.length_append, l1, l2]
    · simp only
      rw [List.map_cons, List.map_cons, k1, k2]
    · intro z hz
      simp only at hz
      rw [flats_cons, List.mem_append] at hz
      rcases hz with hz | hz
      · obtain ⟨y, hy, e⟩ := n1 z hz
        exact ⟨y, by rw [flats_cons]; exact List.mem_append.2 (.inl hy), e⟩
      · obtain ⟨y, hy, e⟩ := n2 z hz
        exact ⟨y, by rw [flats_cons]; exact List.mem_append.2 (.inr hy), e⟩
theorem stamp_ok (a b : Int) : ∀ u : U, ∀ n m, StampOk a b u n m (U.stamp a b u n m) := by
  refine U.ind fun u ih n m => ?_
  obtain ⟨i2, x2, d2, l2, k2, n2⟩ := stamps_of a b ih (n + 1) (m + u.head.length + u.words.length)
  rw [U.stamp_eq]
  refine ⟨?_, ?_, ?_, ?_, rfl, ?_⟩
  · rw [U.ids_eq]
    simp only
    rw [i2, U.flat_eq u, List.length_cons, Nat.add_comm, idRow_app]
    unfold idRow
    simp
  · simp only
    rw [x2, U.flat_eq u, List.length_cons]; omega
  · rw [U.deep_eq, U.deep_eq u]; exact d2
  · rw [U.flat_eq, U.flat_eq u, List.length_cons, List.length_cons]; simp only; rw [l2]
  · intro z hz
    rw [U.flat_eq] at hz
    rcases List.mem_cons.1 hz with rfl | hz
    · refine ⟨u, u.flat_self, nodeOk_keys rfl rfl ?_ ?_ k2⟩
      · exact rowOk_mark a b u.head m
      · exact rowOk_mark a b u.words _
    · obtain ⟨y, hy, e⟩ := n2 z hz
      exact ⟨y, by rw [U.flat_eq]; exact List.mem_cons_of_mem _ hy, e⟩
theorem stampU_ok (u : U) (a b : Int) (h : ∀ y ∈ u.flat, nodeOk y = true) : (stampU u a b).ids = idRow a b 1 u.flat.length ∧ (stampU u a b).deep = u.deep ∧ (stampU u a b).flat.length = u.flat.length ∧ (stampU u a b).key = u.key ∧ ∀ z ∈ (stampU u a b).flat, nodeOk z = true := by
  obtain ⟨i1, x1, d1, l1, k1, n1⟩ := stamp_ok a b u 1 0
  refine ⟨i1, d1, l1, k1, fun z hz => ?_⟩
  obtain ⟨y, hy, e⟩ := n1 z hz
  rw [e]; exact h y hy
theorem idRow_zero (a b : Int) (k : Nat) : zId ∉ idRow a b 1 k := by
  intro h
  obtain ⟨j, _, e⟩ := List.mem_map.1 h
  injection e with _ _ e
  omega

/-! ### words -/
theorem markW_ok {a b : Int} : ∀ {l : List (List UInt8)} {m : Int}, l.all wordOk = true → (markW a b l m).all wdOk = true
  | [], _, _ => rfl
  | s :: l, m, h => by
    rw [List.all_cons, Bool.and_eq_true] at h
    rw [markW, List.all_cons, Bool.and_eq_true]
    exact ⟨h.1, markW_ok h.2⟩
theorem all_take {α : Type} {p : α → Bool} {l : List α} (h : l.all p = true) (k : Nat) : (l.take k).all p = true := List.all_eq_true.2 fun x hx => List.all_eq_true.1 h x (List.mem_of_mem_take hx)
theorem all_drop {α : Type} {p : α → Bool} {l : List α} (h : l.all p = true) (k : Nat) : (l.drop k).all p = true := List.all_eq_true.2 fun x hx => List.all_eq_true.1 h x (List.mem_of_mem_drop hx)
theorem editD_ok {w : List Wd} {fresh : List (List UInt8)} {a b : Int} {gone : Nat} (hw : w.all wdOk = true) (hf : fresh.all wordOk = true) : ∀ (ps : List Nat) (s : Nat) (m : Int), (editD w fresh a b gone s ps m).all wdOk = true
  | [], s, m => by rw [editD]; exact all_drop hw s
  | p :: ps, s, m => by
    rw [editD, List.all_append, List.all_append, all_drop (all_take hw p) s, markW_ok hf, editD_ok hw hf ps]; rfl
theorem seqOk_all {l : List (List UInt8)} (h : seqOk l = true) : l.all wordOk = true ∧ l.length ≤ 256 := by
  unfold seqOk at h
  simp only [Bool.and_eq_true, decide_eq_true_eq] at h
  exact ⟨h.2, by omega⟩
theorem rowOk_all {l : List Wd} (h : rowOk l = true) : l.all wdOk = true := by
  unfold rowOk at h
  simp only [Bool.and_eq_true] at h
  exact h.2
theorem rowOk_mk {l : List Wd} (h : l.all wdOk = true) (hl : ¬ 256 < l.length) : rowOk l = true := by
  unfold rowOk
  rw [h, decide_eq_true (by omega)]; rfl
theorem editE_ok {w : List Wd} {x : Itm} {a b : Int} (hw : rowOk w = true) (hn : seqOk x.new = true) (he : (editE w x a b).2 = 0) : rowOk (editE w x a b).1 = true := by
  have h1 := rowOk_all hw
  have h2 := (seqOk_all hn).1
  unfold editE at he ⊢
  split
  · split
    · rename_i h3 h4; rw [if_pos h3, if_pos h4] at he; cases he
    · rename_i h4
      exact rowOk_mk (by rw [List.all_append, markW_ok h2, h1]; rfl) h4
  · rename_i h3
    rw [if_neg h3] at he
    split
    · rename_i h4; rw [if_pos h4] at he; cases he
    · rename_i h4
      rw [if_neg h4] at he
      split
      · rename_i h5
        rw [if_pos h5] at he
        split
        · rename_i h6; rw [if_pos h6] at he; cases he
        · rename_i h6; exact rowOk_mk (editD_ok h1 h2 _ _ _) h6
      · rename_i h5
        rw [if_neg h5] at he
        split
        · rename_i h6; rw [if_pos h6] at he; cases he
        · rename_i h6; exact rowOk_mk (editD_ok h1 h2 _ _ _) h6

theorem good_inner {u : U} (h : Good u) {i : Idd} (hi : i ∈ u.ids) (hne : u.id ≠ i) {f : U → U} (hid : ∀ y, (f y).id = y.id) (hks : ∀ y, (f y).kids = y.kids) (hn : ∀ z ∈ (U.wth i f u).flat, nodeOk z = true) : Good (U.wth i f u) ∧ Root u (U.wth i f u) := by
  have hr : Root u (U.wth i f u) := root_inner hne
  obtain ⟨l, r, e1, e2⟩ := ids_wth (f := f) u h.nd hi
  have he : (U.wth i f u).ids = u.ids := by rw [e1, e2, U.ids_eq, hid, hks, U.ids_eq (fnd i u)]
  refine ⟨⟨by rw [he]; exact h.nd, hn, ?_, ?_, ?_, ?_⟩, hr⟩
  · have h1 := deep_wth (f := f) u h.nd hi
    have h2 : (f (fnd i u)).deep = (fnd i u).deep := by rw [U.deep_eq, U.deep_eq (fnd i u), hks]
    have h3 := h.dep
    omega
  · have := congrArg List.length he
    rw [U.ids_len, U.ids_len] at this
    rw [this]; exact h.cnt
  · rw [hr.kind, hr.id]; exact h.root
  · rw [hr.kind, he]; exact h.zero
theorem own_fields {y : U} (h : nodeOk y = true) (hk : y.kind ≠ 0) : labelOk y.label = true ∧ rowOk y.head = true ∧ rowOk y.words = true := by
  unfold nodeOk own1 at h
  rw [if_neg hk] at h
  simp only [Bool.and_eq_true] at h
  exact ⟨h.1.2.1, h.1.2.2.1, h.1.2.2.2⟩
theorem node_words {y : U} (h : nodeOk y = true) (hk : y.kind ≠ 0) {w : List Wd} (hw : rowOk w = true) : nodeOk { y with words := w } = true := by
  unfold nodeOk own1 at h ⊢
  simp only at h ⊢
  rw [if_neg hk] at h ⊢
  rw [hw, Bool.and_true]
  simp only [Bool.and_eq_true] at h ⊢
  exact ⟨⟨h.1.1, h.1.2.1, h.1.2.2.1⟩, h.2⟩
theorem node_head {y : U} (h : nodeOk y = true) (hk : y.kind ≠ 0) {w : List Wd} (hw : rowOk w = true) : nodeOk { y with head := w } = true := by
  unfold nodeOk own1 at h ⊢
  simp only at h ⊢
  rw [if_neg hk] at h ⊢
  rw [hw, Bool.true_and]
  simp only [Bool.and_eq_true] at h ⊢
  exact ⟨⟨h.1.1, h.1.2.1, h.1.2.2.2⟩, h.2⟩
theorem flat_kids' {y z : U} (h : z.kids = y.kids) : ∀ v ∈ z.flat, v = z ∨ v ∈ y.flat := by
  intro v hv
  rw [U.flat_eq, h] at hv
  rcases List.mem_cons.1 hv with rfl | hv
  · exact .inl rfl
  · exact .inr (by rw [U.flat_eq]; exact List.mem_cons_of_mem _ hv)
end Go.Av
end
