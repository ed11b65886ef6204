/-
  LINT, plain laws: trees as the reference sees them and as the program does.
-/
import Derived.Test.YtedcgagodcfgmaaGreatDoorXL19
import Derived.Test.YtedcgagodcfgmaaGreatDoorXL29
import Derived.Test.YtedcgagodcfgmaaGreatDoorXL20toXOpI
import Derived.Lib.Join
section
namespace Go.Av
open Go Go.RowKit Go.Proofs
set_option linter.unusedSimpArgs false
set_option linter.unusedVariables false

theorem all_congr' {α : Type} {p q : α → Bool} : ∀ {l : List α}, (∀ x ∈ l, p x = q x) → l.all p = l.all q
  | [], _ => rfl
  | x :: l, h => by rw [List.all_cons, List.all_cons, h x (by simp), all_congr' fun y hy => h y (by simp [hy])]
theorem flats_all (p : U → Bool) : ∀ us : List U, (U.flats us).all p = us.all fun k => k.flat.all p
  | [] => by rw [flats_nil]; rfl
  | u :: us => by rw [flats_cons, List.all_append, flats_all p us, List.all_cons]
theorem flat_all (p : U → Bool) (u : U) : u.flat.all p = (p u && u.kids.all fun k => k.flat.all p) := by rw [U.flat_eq, List.all_cons, flats_all]

/-! ### trees that stand right -/
theorem rights_all (k : Int) : ∀ us : List U, U.rights k us = ((us.all fun x => nests k x.kind) && us.all U.right)
  | [] => by rw [U.rights]; rfl
  | u :: us => by
    rw [U.rights, rights_all k us, List.all_cons, List.all_cons]
    cases nests k u.kind <;> cases u.right <;> simp
theorem rowOk_nil : rowOk [] = true := by decide
theorem aloneOk_own (u : U) : aloneOk u = (own1 u && decide ((u.kids.length : Int) ≤ 64)) := by
  unfold aloneOk own1
  by_cases hk : u.kind = 0
  · rw [if_pos hk, if_pos hk, Bool.eq_iff_iff]
    simp only [Bool.and_eq_true, decide_eq_true_eq]
    constructor
    · rintro ⟨⟨_, _, h3, _, _⟩, h6⟩; exact ⟨h6, h3⟩
    · rintro ⟨⟨h6, h7, h8⟩, h3⟩
      have e1 : u.head = [] := List.length_eq_zero_iff.1 (by omega)
      have e2 : u.words = [] := List.length_eq_zero_iff.1 (by omega)
      exact ⟨⟨by omega, by omega, h3, by rw [e1]; exact rowOk_nil, by rw [e2]; exact rowOk_nil⟩, h6, h7, h8⟩
  · rw [if_neg hk, if_neg hk, Bool.eq_iff_iff]
    simp only [Bool.and_eq_true, decide_eq_true_eq]
    constructor
    · rintro ⟨⟨h1, h2, h3, h4, h5⟩, h6⟩; exact ⟨⟨⟨h1, h2⟩, h6, h4, h5⟩, h3⟩
    · rintro ⟨⟨⟨h1, h2⟩, h6, h4, h5⟩, h3⟩; exact ⟨⟨h1, h2, h3, h4, h5⟩, h6⟩
theorem right_flat : ∀ u : U, u.right = u.flat.all nodeOk := by
  refine U.ind fun u ih => ?_
  rw [U.right_eq, flat_all, rights_all, aloneOk_own, all_congr' ih, show nodeOk u = (own1 u && ((u.kids.all fun k => nests u.kind k.kind) && decide (Apart u.kids) && decide ((u.kids.length : Int) ≤ 64))) from rfl]
  generalize own1 u = a, (u.kids.all fun x => nests u.kind x.kind) = b, decide (Apart u.kids) = c, decide ((u.kids.length : Int) ≤ 64) = d, (u.kids.all fun k => k.flat.all nodeOk) = e
  cases a <;> cases b <;> cases c <;> cases d <;> cases e <;> rfl
theorem treeOk_two (u : U) : treeOk u = treeOk2 u := by unfold treeOk treeOk2; rw [right_flat]

/-! ### bare trees -/
theorem map_fix {α : Type} {f : α → α} : ∀ {l : List α}, l = l.map f ↔ ∀ x ∈ l, x = f x
  | [] => by simp
  | x :: l => by simp [map_fix (f := f) (l := l)]
theorem wd_bare (w : Wd) : w = w.bare ↔ marked w = false := by
  obtain ⟨t, a, b, c⟩ := w
  simp [Wd.bare, marked]
theorem bare_list (l : List Wd) : l = l.map Wd.bare ↔ l.any marked = false := by
  rw [map_fix, List.any_eq_false]
  constructor <;> intro h x hx
  · have := (wd_bare x).1 (h x hx); simp [this]
  · exact (wd_bare x).2 (by simpa using h x hx)
theorem strip_fix : ∀ u : U, (u = u.strip) ↔ u.flat.all bareNode = true := by
  refine U.ind fun u ih => ?_
  rw [flat_all, Bool.and_eq_true, List.all_eq_true, U.strip_eq, show bareNode u = (decide (u.id = zId) && (!u.head.any marked && !u.words.any marked)) from rfl]
  simp only [Bool.and_eq_true, decide_eq_true_eq, Bool.not_eq_true']
  rw [← bare_list, ← bare_list]
  have hk : u.kids = u.kids.map U.strip ↔ ∀ k ∈ u.kids, k.flat.all bareNode = true := by
    rw [map_fix]
    exact ⟨fun h k hk => (ih k hk).1 (h k hk), fun h k hk => (ih k hk).2 (h k hk)⟩
  rw [← hk]
  obtain ⟨i, k, l, h, w, ks⟩ := u
  simp only [U.mk.injEq, true_and, zId]
  constructor
  · rintro ⟨a, b, c, d⟩; exact ⟨⟨a, b, c⟩, d⟩
  · rintro ⟨⟨a, b, c⟩, d⟩; exact ⟨a, b, c, d⟩
theorem bareOk_two (u : U) : bareOk u = bareOk2 u := by
  unfold bareOk bareOk2
  rw [treeOk_two]
  congr 1
  rw [Bool.eq_iff_iff, decide_eq_true_eq, strip_fix]

/-! ### shapes -/
theorem alone_own (u : U) : alone11 u = own1 u := by
  unfold alone11 own1
  by_cases hk : u.kind = 0
  · rw [if_pos hk, if_pos hk]
  · rw [if_neg hk, if_neg hk]
    have : decide (0 < u.kind) = decide (0 ≤ u.kind) := by rw [decide_eq_decide]; omega
    rw [this, Bool.and_assoc]
theorem shapes_all (d k : Int) : ∀ us : List U, U.shapes d k us = ((us.all fun x => nests k x.kind) && us.all fun x => x.shape d)
  | [] => by rw [U.shapes]; rfl
  | u :: us => by
    rw [U.shapes, shapes_all d k us, List.all_cons, List.all_cons]
    cases nests k u.kind <;> cases u.shape d <;> simp
theorem nests_ne0 {p k : Int} (h : nests p k = true) : k ≠ 0 := by
  unfold nests at h
  (repeat' split at h) <;> simp at h <;> omega
theorem deps_le (us : List U) (d : Int) : d + U.deps us ≤ 8 ↔ d ≤ 8 ∧ ∀ k ∈ us, d + 1 + k.dep ≤ 8 := by
  induction us with
  | nil => simp [U.deps_nil]
  | cons u us ih =>
    rw [U.deps_cons]
    constructor
    · intro h
      have h2 := ih.1 (by omega)
      refine ⟨h2.1, fun k hk => ?_⟩
      rcases List.mem_cons.1 hk with rfl | hk
      · omega
      · exact h2.2 k hk
    · rintro ⟨h1, h2⟩
      have a1 := h2 u (by simp)
      have a2 := ih.2 ⟨h1, fun k hk => h2 k (by simp [hk])⟩
      omega
theorem shape_flat : ∀ (u : U) (d : Int), 0 ≤ d → u.shape d = (u.flat.all nodeOk && (decide (d + u.dep ≤ 8) && !(decide (0 < d) && decide (u.kind = 0)))) := by
  refine U.ind fun u ih d hd => ?_
  rw [U.shape_eq, flat_all, shapes_all, alone_own, all_congr' fun k hk => ih k hk (d + 1) (by omega), U.dep_eq]
  rw [Bool.eq_iff_iff, show nodeOk u = (own1 u && ((u.kids.all fun k => nests u.kind k.kind) && decide (Apart u.kids) && decide ((u.kids.length : Int) ≤ 64))) from rfl]
  simp only [Bool.and_eq_true, decide_eq_true_eq, List.all_eq_true, Bool.not_eq_true', Bool.and_eq_false_iff, decide_eq_false_iff_not, deps_le]
  constructor
  · rintro ⟨⟨⟨a1, a2⟩, a3, a4⟩, ⟨a5, a6⟩, a7⟩
    exact ⟨⟨⟨a3, ⟨a5, a7⟩, a4⟩, fun k hk => (a6 k hk).1⟩, ⟨a1, fun k hk => (a6 k hk).2.1⟩, a2⟩
  · rintro ⟨⟨⟨a3, ⟨a5, a7⟩, a4⟩, a8⟩, ⟨a1, a9⟩, a2⟩
    exact ⟨⟨⟨a1, a2⟩, a3, a4⟩, ⟨a5, fun k hk => ⟨a8 k hk, a9 k hk, .inr (nests_ne0 (a5 k hk))⟩⟩, a7⟩

/-! ### stripped trees -/
theorem flats_strip_of : ∀ us : List U, (∀ k ∈ us, k.strip.flat = k.flat.map U.strip) → U.flats (us.map U.strip) = (U.flats us).map U.strip
  | [], _ => by rw [List.map_nil, flats_nil]; rfl
  | u :: us, h => by rw [List.map_cons, flats_cons, flats_cons, List.map_append, h u (by simp), flats_strip_of us fun k hk => h k (by simp [hk])]
theorem flat_strip : ∀ u : U, u.strip.flat = u.flat.map U.strip := by
  refine U.ind fun u ih => ?_
  rw [U.flat_eq, U.flat_eq, List.map_cons]
  congr 1
  rw [U.strip_eq]
  exact flats_strip_of _ ih
theorem strip_kind (u : U) : u.strip.kind = u.kind := by rw [U.strip_eq]
theorem strip_label (u : U) : u.strip.label = u.label := by rw [U.strip_eq]
theorem rowOk_bare (l : List Wd) : rowOk (l.map Wd.bare) = rowOk l := by
  unfold rowOk
  rw [List.length_map, List.all_map]
  rfl
theorem own_strip (u : U) : own1 u.strip = own1 u := by
  rw [U.strip_eq]
  unfold own1
  simp only [List.length_map, rowOk_bare]
theorem apart_strip (l : List U) : Apart (l.map U.strip) = Apart l := by
  unfold Apart
  rw [List.map_map]
  congr 1
  refine List.map_congr_left fun k _ => ?_
  simp only [Function.comp, strip_kind, strip_label]
theorem nodeOk_strip (u : U) : nodeOk u.strip = nodeOk u := by
  have h : u.strip.kids = u.kids.map U.strip := by rw [U.strip_eq]
  unfold nodeOk
  rw [own_strip, h, List.all_map, List.length_map, strip_kind]
  simp only [apart_strip]
  congr 3
  exact all_congr' fun k _ => by simp only [Function.comp, strip_kind]
theorem deps_strip : ∀ us : List U, (∀ k ∈ us, k.strip.dep = k.dep) → U.deps (us.map U.strip) = U.deps us
  | [], _ => rfl
  | u :: us, h => by rw [List.map_cons, U.deps_cons, U.deps_cons, h u (by simp), deps_strip us fun k hk => h k (by simp [hk])]
theorem dep_strip : ∀ u : U, u.strip.dep = u.dep := by
  refine U.ind fun u ih => ?_
  rw [U.dep_eq, U.dep_eq, show u.strip.kids = u.kids.map U.strip by rw [U.strip_eq]]
  exact deps_strip _ ih
theorem cnt_strip (u : U) : u.strip.cnt = u.cnt := by unfold U.cnt; rw [flat_strip, List.length_map]
theorem ids_strip (u : U) : idsOk u.strip = true := by
  unfold idsOk U.ids
  rw [flat_strip]
  simp only [Bool.or_eq_true, List.all_eq_true, List.map_map]
  left
  intro x hx
  obtain ⟨y, _, rfl⟩ := List.mem_map.1 hx
  simp [Function.comp, U.strip_eq, zId]
theorem tree_strip (u : U) : treeOk2 u.strip = shapeOk u := by
  unfold treeOk2 shapeOk
  rw [shape_flat u 0 (by omega), flat_strip, List.all_map, dep_strip, cnt_strip, ids_strip, all_congr' (p := nodeOk ∘ U.strip) (q := nodeOk) fun x _ => nodeOk_strip x]
  simp [Bool.and_assoc]

/-- A node without its children and its identity. -/
def U.lone (u : U) : U := ⟨zId, u.kind, u.label, u.head, u.words, []⟩
theorem tree_lone (u : U) : treeOk2 u.lone.strip = alone11 u := by
  rw [tree_strip, alone_own]
  unfold shapeOk
  rw [shape_flat _ 0 (by omega), flat_all]
  have h1 : u.lone.dep = 0 := by rw [U.dep_eq]; rfl
  have h2 : u.lone.cnt = 1 := by rw [U.cnt_eq]; rfl
  rw [h1, h2]
  unfold nodeOk
  have : own1 u.lone = own1 u := rfl
  rw [this]
  simp [U.lone, Apart]
end Go.Av
end

section
namespace Go.Av
open Go Go.RowKit Go.Proofs
set_option linter.unusedSimpArgs false
set_option linter.unusedVariables false

theorem U.lone_short {u : U} (hs : u.Short) : u.lone.Short := by
  have h0 := hs.2 u u.flat_self
  have hf := (U.fit_eq u).1 hs.1.1
  have e : u.lone.flat = [u.lone] := by rw [U.flat_eq]; show _ :: U.flats [] = _; rw [flats_nil]
  refine ⟨⟨(U.fit_eq _).2 ⟨hf.1, hf.2.1, hf.2.2.1, by simp [U.lone], by simp [U.lone]⟩, by rw [e]; simp⟩, ?_⟩
  intro x hx
  rw [e, List.mem_singleton] at hx
  subst hx
  exact h0
theorem fit_strip : ∀ u : U, u.fit → u.strip.fit := by
  refine U.ind fun u ih hf => ?_
  obtain ⟨a, ⟨b, b2⟩, ⟨c, c2⟩, d, e⟩ := (U.fit_eq u).1 hf
  rw [U.strip_eq]
  refine (U.fit_eq _).2 ⟨a, ⟨by simpa using b, ?_⟩, ⟨by simpa using c, ?_⟩, by simpa using d, ?_⟩
  · intro x hx
    obtain ⟨w, hw, rfl⟩ := List.mem_map.1 hx
    exact b2 w hw
  · intro x hx
    obtain ⟨w, hw, rfl⟩ := List.mem_map.1 hx
    exact c2 w hw
  · intro x hx
    obtain ⟨k, hk, rfl⟩ := List.mem_map.1 hx
    exact ih k hk (e k hk)
theorem strip_short {u : U} (hs : u.Short) : u.strip.Short := by
  refine ⟨⟨fit_strip u hs.1.1, by rw [flat_strip, List.length_map]; exact hs.1.2⟩, ?_⟩
  intro x hx
  rw [flat_strip] at hx
  obtain ⟨y, hy, rfl⟩ := List.mem_map.1 hx
  obtain ⟨h1, h2, h3, h4, h5⟩ := hs.2 y hy
  rw [U.strip_eq]
  refine ⟨h1, by simpa using h2, by simpa using h3, ?_, ?_⟩
  · intro w hw
    obtain ⟨w', hw', rfl⟩ := List.mem_map.1 hw
    exact h4 w' hw'
  · intro w hw
    obtain ⟨w', hw', rfl⟩ := List.mem_map.1 hw
    exact h5 w' hw'
theorem U.Short.node {u x : U} (hs : u.Short) (hx : x ∈ u.flat) : x.Short := by
  induction u using U.ind with
  | h u ih =>
    rw [U.flat_eq] at hx
    rcases List.mem_cons.1 hx with rfl | hx
    · exact hs
    · obtain ⟨k, hk, hx⟩ := flats_in hx
      exact ih k hk (hs.kid hk) hx

theorem repeat2 (n : Nat) : Lib.repeatL [32, 32] n = List.replicate (2 * n) 32 := by
  induction n with
  | zero => rfl
  | succ n ih => rw [Lib.repeatL, ih, Nat.mul_add]; simp [List.replicate_succ]
theorem rows_cells {τ : Store} {w : World} {b : Nat} : ∀ (xs : List (List UInt8)) (i : Nat), RepRows τ w ⟨b, 0, none⟩ 1 i (xs.map srow) → ∀ (j : Nat) x, xs[j]? = some x → w.cell? ⟨b, i + j, none⟩ = some (.string ⟨⟨x⟩⟩)
  | [], i, _, j, x, hx => by simp at hx
  | y :: xs, i, h, j, x, hx => by
    simp only [srow, List.map_cons, RepRows, RepAt, Rep] at h
    obtain ⟨_, ⟨⟨u, hF, _, rfl⟩, _⟩, hr⟩ := h
    cases j with
    | zero =>
      simp at hx
      subst hx
      have e : (⟨b, 0, none⟩ : Addr).add (i * 1) = ⟨b, i, none⟩ := by unfold Addr.add; by_cases hi : i = 0 <;> simp [hi]
      have := hF.1
      rw [e] at this
      exact this
    | succ j =>
      have := rows_cells xs (i + 1) hr j x (by simpa using hx)
      rw [show i + (j + 1) = i + 1 + j by omega]
      exact this

section
variable (G : Glob)

theorem f316 (n : Nat) (hn : n ≤ 8) : Pure G Tryz.prog 316 [.str [32, 32], .int .i64 n] (.str (List.replicate (2 * n) 32)) := by
  refine Pure.of_calls Tryz.func316 (by kernel_rfl) (by kernel_rfl) fun τ w vs hS hA => ?_
  obtain ⟨u, v, rfl, h1, h2⟩ := vs_two hA
  simp only [Rep] at h1 h2
  subst h1 h2
  refine ⟨.string ⟨⟨List.replicate (2 * n) 32⟩⟩, fun _ _ => by simp only [Rep], ?_⟩
  have hsz : (⟨⟨[32, 32]⟩⟩ : ByteArray).size = 2 := rfl
  refine (Tryz.strings_Repeat ⟨⟨[32, 32]⟩⟩ n w (by omega) (by rw [hsz]; omega)).mono ?_
  rintro e w' ⟨rfl, hB⟩
  exact ⟨by rw [← repeat2], hB⟩

theorem f253 (g : Option Nat) (xs : List (List UInt8)) (sep : List UInt8) (hn : xs.length ≤ 1000000) (hl : (Lib.join xs sep).length ≤ 140737488355328) : Pure G Tryz.prog 253 [.own g 9 1 (xs.map srow), .str sep] (.str (Lib.join xs sep)) := by
  refine Pure.of_calls Tryz.func253 (by kernel_rfl) (by kernel_rfl) fun τ w vs hS hA => ?_
  obtain ⟨u, v, rfl, h1, h2⟩ := vs_two hA
  simp only [Rep] at h2
  subst h2
  refine ⟨.string ⟨⟨Lib.join xs sep⟩⟩, fun _ _ => by simp only [Rep], ?_⟩
  have none_ : ∀ a c, xs = [] → Calls Tryz.prog 253 #[.slice a 0 c, .string ⟨⟨sep⟩⟩] w fun e w' => e = .returned (.string ⟨⟨Lib.join xs sep⟩⟩) ∧ Below w.heap.size w w' := by
    rintro a c rfl
    refine (Tryz.strings_Join_none a c ⟨⟨sep⟩⟩ w).mono ?_
    rintro e w' ⟨rfl, rfl⟩
    exact ⟨rfl, Below.refl _ _⟩
  cases g with
  | none =>
    simp only [Rep] at h1
    obtain ⟨rfl, hx⟩ := h1
    exact none_ _ _ (by simpa using hx)
  | some b =>
    simp only [Rep] at h1
    obtain ⟨cap, rfl, hc, hm, hsh, hr⟩ := h1
    rw [List.length_map] at hc ⊢
    by_cases hx : xs = []
    · subst hx
      exact none_ _ _ rfl
    · have e1 : (xs.map (fun x => (⟨⟨x⟩⟩ : ByteArray))).map (·.data.toList) = xs := by rw [List.map_map]; exact List.map_id xs
      have hb : b < w.heap.size := by
        rcases Nat.lt_or_ge b w.heap.size with h | h
        · exact h
        · have : w.heap[b]? = none := Array.getElem?_eq_none h
          simp [World.shape?, this] at hsh
      have hcells : ∀ (j : Nat) x, (xs.map (fun x => (⟨⟨x⟩⟩ : ByteArray)))[j]? = some x → w.cell? ⟨b, 0 + j, none⟩ = some (.string x) := by
        intro j x hj
        simp only [List.getElem?_map, Option.map_eq_some_iff] at hj
        obtain ⟨y, hy, rfl⟩ := hj
        exact rows_cells xs 0 hr j y hy
      have h := Tryz.strings_Join b 0 cap (xs.map (fun x => (⟨⟨x⟩⟩ : ByteArray))) ⟨⟨sep⟩⟩ w hcells hb (by simp; omega) (by simpa using hc) (by rw [e1]; exact hl)
      rw [e1, List.length_map] at h
      exact h

theorem f318 (s : List UInt8) (l : List Wd) (hs : s.length ≤ 1000000) (hr : rowOk l = true) : Pure G Tryz.prog 318 [.str s, .lst 4 (l.map Wd.cs)] (.str (s ++ wordsT l)) := by
  have hl := row_len hr
  refine Pure.w c318 fun R hR => ?_
  unfold s318 r318
  (repeat' (first | (with_reducible (first | refine split_case (fun h => ?_) (fun h => ?_) | refine gd_case (fun h => ?_) (fun h => ?_)) <;> (try simp only [Da, Db, Dc, Dd, De, Df, Dg, Dh] at h)) | (with_reducible refine And.intro (by omega) ?_) | simp -dsimp -implicitDefEqProofs only [EV1, EV2, EV3, EV4, EV5, seval, ↓reduceIte, reduceCtorEq, eq_self, Option.map_some, decide_true, decide_false, EV6, EV7, List.length_append, List.length_cons, List.length_nil, hx.yes, hx.le0, hx.lt', hx.get, hx.row, hw] | simp -dsimp -implicitDefEqProofs only [EV1, EV2, EV3, EV4, EV5, seval, ↓reduceIte, reduceCtorEq, eq_self, Option.map_some, decide_true, decide_false, EV6, EV7, List.length_append, List.length_cons, List.length_nil, hn] | simp -dsimp -implicitDefEqProofs only [EV1, EV2, EV3, EV4, EV5, seval, ↓reduceIte, reduceCtorEq, eq_self, Option.map_some, decide_true, decide_false, EV6, EV7, List.length_append, List.length_cons, List.length_nil] | (with_reducible intro blk hblk; (try (have hnx := hblk; simp only [EVK] at hnx; (have hne := hnx)))) | (refine W_list (ι := List UInt8) (l) (fun i r c => s ++ wordsT l = c ++ wordsT r ∧ c.length ≤ s.length + i * 26) (fun i c => [(0, .str c), (7, .lst 4 (l.map Wd.cs)), (8, .int .i64 l.length), (9, .int .i64 i)]) (fun _ _ => []) (s) (by ((simp; done))) (Weak.rfl' _ _) (by omega) (fun i x r c hok hx hw => ?_) (fun c hok hn => ?_) <;> (try (obtain ⟨hp, hp2⟩ := row_word hr hx.mem; have hil := hx.lt)) ) | (refine LK_next hx _ ?_ (Weak.sub (SubN.nil _)))))
  · rw [hok.1]
    have e : escT x.text = 92 :: x.text := by unfold escT; rw [if_pos]; right; exact UInt8.toNat_inj.1 (by show _ = 92; omega)
    exact ⟨by simp [wordsT, e], by omega⟩
  · rename_i h2
    rw [hok.1]
    have e : escT x.text = x.text := by
      unfold escT
      rw [if_neg]
      rintro (h3 | h3)
      · exact h2 (by rw [h3]; rfl)
      · exact h (by rw [h3]; rfl)
    exact ⟨by simp [wordsT, e], by omega⟩
  · rw [hok.1]
    have e : escT x.text = 92 :: x.text := by unfold escT; rw [if_pos]; left; exact UInt8.toNat_inj.1 (by show _ = 124; omega)
    exact ⟨by simp [wordsT, e], by omega⟩
  · exact RET.eq hR (by rw [hok.1]; simp [wordsT])
end

theorem lone_cs (u : U) : u.lone.cs = [.int .i64 0, .int .i64 0, .int .i64 0, .int .i64 u.kind, .str u.label, .lst 4 (u.head.map Wd.cs), .lst 4 (u.words.map Wd.cs), .lst 8 []] := by rw [U.cs_eq]; rfl

section
variable (G : Glob) (hG : GOk G)
include hG

theorem f315 (u : U) (d : Int) (hs : u.Short) : Pure G Tryz.prog 315 [.agg u.cs, .int .i64 d] (.bool ((decide (0 ≤ d) && decide (d ≤ 8)) && alone11 u)) := by
  have hS := f282 G u.lone (U.lone_short hs)
  have hV := f254 G hG u.lone.strip (strip_short (U.lone_short hs))
  rw [tree_lone] at hV
  rw [lone_cs] at hS
  rw [U.cs_eq u]
  refine Pure.w c315 fun R hR => ?_
  unfold s315 r315
  (repeat' (first | (with_reducible (refine gd_case (fun h => ?_) (fun h => ?_)) <;> (try simp only [Da, Db, Dc, Dd, De, Df, Dg, Dh] at h)) | (with_reducible refine CALL_pure (hV) ?_) | simp -dsimp -implicitDefEqProofs only [EV1, EV2, EV3, EV4, EV5, seval, ↓reduceIte, reduceCtorEq, eq_self, Option.map_some, decide_true, decide_false, EV6, EV7] | (with_reducible intro blk hblk; (try (have hnx := hblk; simp only [EVK] at hnx; (have hne := hnx)))) | (refine CALL_pure_le hS ⟨.inr ⟨.inl rfl, .inl rfl, .inl rfl, .inl rfl, .inl rfl, .inl rfl, .inl rfl, .inr rfl, trivial⟩, trivial⟩ ?_)))
  all_goals (refine RET.eq hR (congrArg AV.bool ?_); first | (simp [*]; done) | (rw [decide_eq_false (p := 0 ≤ d) (by omega)]; rfl) | (rw [decide_eq_false (p := d ≤ 8) (by omega), Bool.and_false]; rfl))

theorem f284 (u : U) (n : Nat) (hs : u.Short) (hn : n ≤ 1000000) : Pure G Tryz.prog 284 [.agg u.cs, .int .i64 n] (.str (lineOf u n)) := by
  have hm := f315 G hG u n hs
  have hkn := f317 G hG u.kind
  refine Pure.w c284 fun R hR => ?_
  unfold s284 r284
  by_cases ha : alone11 u = true ∧ n ≤ 8
  · obtain ⟨a0, a7, ah, aw, al⟩ := alone_facts ha.1
    have b1 := wordsT_row ah
    have b2 := wordsT_row aw
    have b3 := kindText_len u.kind
    have hrp := f316 G n ha.2
    rw [ha.1, Bool.and_true, show (decide ((0 : Int) ≤ n) && decide ((n : Int) ≤ 8)) = true by simp; omega] at hm
    rw [if_pos ⟨a0, a7⟩] at hkn
    have ea : lineOf u n = lineT u n := by unfold lineOf; rw [if_pos ⟨ha.2, ha.1⟩]
    rw [ea] at hR
    have hp1 := fun s hs => f318 G s u.head hs ah
    have hp2 := fun s hs => f318 G s u.words hs aw
    (repeat' (first | (with_reducible (refine split_case (fun h => ?_) (fun h => ?_)) <;> (try simp only [Da, Db, Dc, Dd, De, Df, Dg, Dh] at h)) | (with_reducible refine And.intro (by omega) ?_) | (with_reducible refine CALL_pure (hm) ?_) | (with_reducible refine CALL_pure (hkn) ?_) | (with_reducible refine CALL_pure (hrp) ?_) | (with_reducible refine CALL_pure (hp1 _ (by simp; omega)) ?_) | (with_reducible refine CALL_pure (hp2 _ (by simp; omega)) ?_) | simp -dsimp -implicitDefEqProofs only [EV1, EV2, EV3, EV4, EV5, seval, ↓reduceIte, reduceCtorEq, eq_self, Option.map_some, decide_true, decide_false, EV6, EV7, List.length_append, List.length_cons, List.length_nil, List.length_replicate]))
    all_goals (refine RET.eq hR (congrArg AV.str ?_); unfold lineT; (repeat first | rw [if_pos (by omega)] | rw [if_neg (by omega)]); simp; done)
  · have e : ((decide ((0 : Int) ≤ n) && decide ((n : Int) ≤ 8)) && alone11 u) = false := by
      rw [Bool.eq_false_iff]
      intro h
      simp at h
      exact ha ⟨h.2, by omega⟩
    rw [e] at hm
    have ea : lineOf u n = [] := by unfold lineOf; rw [if_neg (fun h => ha ⟨h.2, h.1⟩)]
    rw [ea] at hR
    (repeat' (first | (with_reducible refine CALL_pure (hm) ?_) | simp -dsimp -implicitDefEqProofs only [EV1, EV2, EV3, EV4, EV5, seval, ↓reduceIte, reduceCtorEq, eq_self, Option.map_some, decide_true, decide_false, EV6, EV7]))
    (all_goals ((exact RET.eq hR rfl)))
end
end Go.Av
end
