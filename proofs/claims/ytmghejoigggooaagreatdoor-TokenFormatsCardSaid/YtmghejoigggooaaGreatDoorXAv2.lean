/-
  ABSTRACT VALUES, 2: the store, the frame, and what holds between them and the model's memory.
-/
import Derived.Test.YtmghejoigggooaaGreatDoorXAv1
namespace Go.Av
open Go Go.RowKit

/-! ### lists of represented values -/

theorem RepL.length {σ : Store} {w : World} : ∀ {xs : List AV} {us : List Value}, RepL σ w xs us → us.length = xs.length
  | [], us, h => by simp only [RepL] at h; simp [h]
  | x :: xs, us, h => by
    simp only [RepL] at h
    obtain ⟨u, us', rfl, _, h3⟩ := h
    simp [RepL.length h3]

theorem RepL.get {σ : Store} {w : World} : ∀ {xs : List AV} {us : List Value}, RepL σ w xs us → ∀ (i : Nat) (h : i < xs.length) (h' : i < us.length), Rep σ w xs[i] us[i]
  | [], us, _, i, hi, _ => by simp at hi
  | x :: xs, us, h, i, hi, hi' => by
    simp only [RepL] at h
    obtain ⟨u, us', rfl, h2, h3⟩ := h
    cases i with
    | zero => simpa using h2
    | succ i => simpa using RepL.get h3 i (by simpa using hi) (by simpa using hi')

theorem RepL.of_get {σ : Store} {w : World} : ∀ {xs : List AV} {us : List Value}, us.length = xs.length → (∀ (i : Nat) (h : i < xs.length) (h' : i < us.length), Rep σ w xs[i] us[i]) → RepL σ w xs us
  | [], us, hl, _ => by simp only [RepL]; exact List.eq_nil_of_length_eq_zero (by simpa using hl)
  | x :: xs, [], hl, _ => by simp at hl
  | x :: xs, u :: us, hl, h => by
    simp only [RepL]
    exact ⟨u, us, rfl, h 0 (by simp) (by simp), RepL.of_get (by simpa using hl) (fun i hi hi' => h (i + 1) (by simpa using hi) (by simpa using hi'))⟩

theorem RepL.append {σ : Store} {w : World} : ∀ {xs ys : List AV} {us vs : List Value}, RepL σ w xs us → RepL σ w ys vs → RepL σ w (xs ++ ys) (us ++ vs)
  | [], ys, us, vs, h, k => by simp only [RepL] at h; simpa [h] using k
  | x :: xs, ys, us, vs, h, k => by
    simp only [RepL] at h
    obtain ⟨u, us', rfl, h2, h3⟩ := h
    simp only [List.cons_append, RepL]
    exact ⟨u, _, rfl, h2, RepL.append h3 k⟩

theorem RepL.drop {σ : Store} {w : World} : ∀ (n : Nat) {xs : List AV} {us : List Value}, RepL σ w xs us → RepL σ w (xs.drop n) (us.drop n)
  | 0, xs, us, h => by simpa using h
  | n + 1, [], us, h => by simp only [RepL] at h; simp [h, RepL]
  | n + 1, x :: xs, us, h => by
    simp only [RepL] at h
    obtain ⟨u, us', rfl, _, h3⟩ := h
    simpa using RepL.drop n h3

theorem RepL.take {σ : Store} {w : World} : ∀ (n : Nat) {xs : List AV} {us : List Value}, RepL σ w xs us → RepL σ w (xs.take n) (us.take n)
  | 0, xs, us, _ => by simp [RepL]
  | n + 1, [], us, h => by simp only [RepL] at h; simp [h, RepL]
  | n + 1, x :: xs, us, h => by
    simp only [RepL] at h
    obtain ⟨u, us', rfl, h2, h3⟩ := h
    simp only [List.take_succ_cons, RepL]
    exact ⟨u, _, rfl, h2, RepL.take n h3⟩

theorem add_add (a : Addr) (i j : Nat) : (a.add i).add j = a.add (i + j) := by
  unfold Addr.add
  by_cases h1 : i = 0
  · simp [h1]
  · by_cases h2 : j = 0
    · simp [h2]
    · simp [h1, h2, Nat.add_assoc]

theorem add_block (a : Addr) (i : Nat) : (a.add i).block = a.block := by unfold Addr.add; split <;> rfl
theorem add_off (a : Addr) (i : Nat) : (a.add i).off = a.off + i := by unfold Addr.add; split <;> simp_all
theorem add_lit (b o i : Nat) : (⟨b, o, none⟩ : Addr).add i = ⟨b, o + i, none⟩ := by unfold Addr.add; split <;> simp_all

theorem RepAt.get {σ : Store} {w : World} {a : Addr} : ∀ {i : Nat} {xs : List AV}, RepAt σ w a i xs → ∀ (j : Nat) (h : j < xs.length), ∃ u, Fixed σ w (a.add (i + j)) u ∧ u.oneCell' = true ∧ Rep σ w xs[j] u
  | i, [], _, j, hj => by simp at hj
  | i, x :: xs, h, j, hj => by
    simp only [RepAt] at h
    cases j with
    | zero => simpa using h.1
    | succ j =>
      have := RepAt.get h.2 j (by simpa using hj)
      simpa [Nat.add_assoc, Nat.add_comm 1 j] using this

theorem RepAt.of_get {σ : Store} {w : World} {a : Addr} : ∀ {i : Nat} {xs : List AV}, (∀ (j : Nat) (h : j < xs.length), ∃ u, Fixed σ w (a.add (i + j)) u ∧ u.oneCell' = true ∧ Rep σ w xs[j] u) → RepAt σ w a i xs
  | i, [], _ => by simp only [RepAt]
  | i, x :: xs, h => by
    simp only [RepAt]
    exact ⟨h 0 (by simp), RepAt.of_get fun j hj => by
      have := h (j + 1) (by simpa using hj)
      rw [show i + (j + 1) = i + 1 + j by omega] at this
      exact this⟩

theorem RepAt.shift {σ : Store} {w : World} {a : Addr} {i : Nat} {xs : List AV} (h : RepAt σ w a i xs) : RepAt σ w (a.add i) 0 xs :=
  RepAt.of_get fun j hj => by rw [add_add]; simpa using h.get j hj

theorem RepAt.drop {σ : Store} {w : World} {a : Addr} (n : Nat) {xs : List AV} (h : RepAt σ w a 0 xs) : RepAt σ w (a.add n) 0 (xs.drop n) :=
  RepAt.of_get fun j hj => by
    rw [add_add]
    have := h.get (n + j) (by simp at hj; omega)
    simpa [List.getElem_drop] using this

theorem RepAt.take {σ : Store} {w : World} {a : Addr} (n : Nat) {i : Nat} {xs : List AV} (h : RepAt σ w a i xs) : RepAt σ w a i (xs.take n) :=
  RepAt.of_get fun j hj => by
    have := h.get j (by simp at hj; omega)
    simpa [List.getElem_take] using this

theorem RepRows.get {σ : Store} {w : World} {a : Addr} {sz : Nat} : ∀ {i : Nat} {rows : List (List AV)}, RepRows σ w a sz i rows → ∀ (j : Nat) (h : j < rows.length), rows[j].length = sz ∧ RepAt σ w a ((i + j) * sz) rows[j]
  | i, [], _, j, hj => by simp at hj
  | i, r :: rs, h, j, hj => by
    simp only [RepRows] at h
    cases j with
    | zero => simpa using ⟨h.1, h.2.1⟩
    | succ j =>
      have := RepRows.get h.2.2 j (by simpa using hj)
      simpa [Nat.add_assoc, Nat.add_comm 1 j] using this

theorem RepRows.of_get {σ : Store} {w : World} {a : Addr} {sz : Nat} : ∀ {i : Nat} {rows : List (List AV)}, (∀ (j : Nat) (h : j < rows.length), rows[j].length = sz ∧ RepAt σ w a ((i + j) * sz) rows[j]) → RepRows σ w a sz i rows
  | i, [], _ => by simp only [RepRows]
  | i, r :: rs, h => by
    simp only [RepRows]
    have h0 := h 0 (by simp)
    exact ⟨h0.1, h0.2, RepRows.of_get fun j hj => by
      have := h (j + 1) (by simpa using hj)
      rw [show i + (j + 1) = i + 1 + j by omega] at this
      exact this⟩

theorem RepRows.ref {σ : Store} {w : World} {a : Addr} {sz : Nat} {rows : List (List AV)} (h : RepRows σ w a sz 0 rows) (j : Nat) (hj : j < rows.length) : RepAt σ w (a.add (j * sz)) 0 rows[j] := by
  have := (h.get j hj).2
  rw [Nat.zero_add] at this
  exact this.shift

theorem RepRows.drop {σ : Store} {w : World} {a : Addr} {sz : Nat} (n : Nat) {rows : List (List AV)} (h : RepRows σ w a sz 0 rows) : RepRows σ w (a.add (n * sz)) sz 0 (rows.drop n) :=
  RepRows.of_get fun j hj => by
    have := h.get (n + j) (by simp at hj; omega)
    simp only [List.getElem_drop]
    refine ⟨this.1, ?_⟩
    refine RepAt.of_get fun k hk => ?_
    have h2 := this.2.get k hk
    rw [add_add]
    rw [show n * sz + ((0 + j) * sz + k) = (0 + (n + j)) * sz + k by simp [Nat.add_mul]; omega]
    exact h2

theorem RepRows.take {σ : Store} {w : World} {a : Addr} {sz : Nat} (n : Nat) {i : Nat} {rows : List (List AV)} (h : RepRows σ w a sz i rows) : RepRows σ w a sz i (rows.take n) :=
  RepRows.of_get fun j hj => by
    have := h.get j (by simp at hj; omega)
    simpa [List.getElem_take] using this

/-! ### a smaller store -/

def Sub (σ' σ : Store) : Prop := ∀ p ∈ σ', p ∈ σ

theorem Mut.sub {σ' σ : Store} (h : Sub σ' σ) {b o : Nat} (m : Mut σ' b o) : Mut σ b o := by
  obtain ⟨x, hx, hm⟩ := m
  exact ⟨x, h _ hx, hm⟩

theorem keys_sub {σ' σ : Store} (h : Sub σ' σ) {b : Nat} (hb : b ∈ σ'.keys) : b ∈ σ.keys := by
  obtain ⟨p, hp, rfl⟩ := List.mem_map.1 hb
  exact List.mem_map.2 ⟨p, h _ hp, rfl⟩

theorem Ev.of_sub {σ' σ : Store} (h : Sub σ' σ) (w : World) : Ev σ w σ' w :=
  ⟨rfl, rfl, rfl, Nat.le_refl _, fun _ _ hn => ⟨rfl, fun hb => hn (keys_sub h hb)⟩, fun _ _ h => h, fun _ _ hv hm => ⟨hv, fun m => hm (m.sub h)⟩⟩

theorem Rep.sub {σ' σ : Store} {w : World} (h : Sub σ' σ) {x : AV} {u : Value} (hr : Rep σ w x u) : Rep σ' w x u := by
  have := Rep.ev (ρ := []) (Ev.of_sub h w) x u (by simpa using hr)
  simpa using this
theorem RepL.sub {σ' σ : Store} {w : World} (h : Sub σ' σ) {x : List AV} {u : List Value} (hr : RepL σ w x u) : RepL σ' w x u := by
  have := RepL.ev (ρ := []) (Ev.of_sub h w) x u (by simpa using hr)
  simpa using this

/-! ### the store holds in memory -/

def ObjSat (σ : Store) (w : World) (b : Nat) : AObj → Prop
  | .cells e cs => ∃ vs, w.heap[b]? = some (.cells vs e (0, 0)) ∧ (∀ v ∈ vs.toList, v.oneCell' = true) ∧ RepL σ w cs vs.toList
  | .tok e k => ∃ vs, w.heap[b]? = some (.cells vs e (0, 0)) ∧ k ≤ vs.size
  | .map es => ∃ ents clock, w.heap[b]? = some (.map ents clock) ∧ ents.toList.map (·.key) = es.map (·.1) ∧ RepL σ w (es.map (·.2)) (ents.toList.map (·.val))

/-- What is known of the program's own variables. -/
structure Glob where
  tab : Nat → Option (List AV)
  holds : Store → World → Prop
  ev : ∀ {σ σ' ρ : Store} {w w' : World}, Ev σ w σ' w' → holds (σ ++ ρ) w → holds (σ' ++ ρ) w'
  tabs : ∀ {σ : Store} {w : World} {g : Nat} {cs : List AV}, holds σ w → tab g = some cs → RepAt σ w ⟨g, 0, none⟩ 0 cs

structure Sat (G : Glob) (σ : Store) (w : World) : Prop where
  nodup : σ.keys.Nodup
  obj : ∀ b x, (b, x) ∈ σ → ObjSat σ w b x
  glob : G.holds σ w

theorem ObjSat.lt {σ : Store} {w : World} {b : Nat} {x : AObj} (h : ObjSat σ w b x) : b < w.heap.size := by
  cases x with
  | cells e cs => obtain ⟨vs, h, _⟩ := h; exact (Array.getElem?_eq_some_iff.1 h).1
  | tok e k => obtain ⟨vs, h, _⟩ := h; exact (Array.getElem?_eq_some_iff.1 h).1
  | map es => obtain ⟨ents, c, h, _⟩ := h; exact (Array.getElem?_eq_some_iff.1 h).1

theorem Sat.key_lt {G : Glob} {σ : Store} {w : World} (h : Sat G σ w) {b : Nat} (hb : b ∈ σ.keys) : b < w.heap.size := by
  obtain ⟨p, hp, rfl⟩ := List.mem_map.1 hb
  exact (h.obj p.1 p.2 hp).lt

/-- What the frame ρ holds stays held. -/
theorem ObjSat.ev {σ σ' ρ : Store} {w w' : World} (he : Ev σ w σ' w') {b : Nat} {x : AObj} (hb : b ∉ σ.keys) (h : ObjSat (σ ++ ρ) w b x) : ObjSat (σ' ++ ρ) w' b x := by
  have hlt := h.lt
  have hh := (he.block b hlt hb).1
  cases x with
  | cells e cs =>
    obtain ⟨vs, h1, h2, h3⟩ := h
    exact ⟨vs, hh.trans h1, h2, RepL.ev he _ _ h3⟩
  | tok e k =>
    obtain ⟨vs, h1, h2⟩ := h
    exact ⟨vs, hh.trans h1, h2⟩
  | map es =>
    obtain ⟨ents, c, h1, h2, h3⟩ := h
    exact ⟨ents, c, hh.trans h1, h2, RepL.ev he _ _ h3⟩

/-- One step: what σ has become holds; the frame holds anyway. -/
theorem Sat.step {G : Glob} {σ σ' ρ : Store} {w w' : World} (h : Sat G (σ ++ ρ) w) (he : Ev σ w σ' w') (hn : σ'.keys.Nodup)
    (hd : ∀ b, b ∈ σ'.keys → b ∈ σ.keys ∨ w.heap.size ≤ b) (ho : ∀ b x, (b, x) ∈ σ' → ObjSat (σ' ++ ρ) w' b x) : Sat G (σ' ++ ρ) w' where
  nodup := by
    have h0 := h.nodup
    rw [keys_append] at h0 ⊢
    obtain ⟨_, h2, h3⟩ := List.nodup_append.1 h0
    refine List.nodup_append.2 ⟨hn, h2, fun b hb c hc e => ?_⟩
    subst e
    rcases hd b hb with h4 | h4
    · exact h3 b h4 b hc rfl
    · have := h.key_lt (b := b) (by rw [keys_append]; exact List.mem_append.2 (.inr hc))
      omega
  obj b x hx := by
    rcases List.mem_append.1 hx with hx | hx
    · exact ho b x hx
    · refine ObjSat.ev he ?_ (h.obj b x (List.mem_append.2 (.inr hx)))
      intro hb
      have h0 := h.nodup
      rw [keys_append] at h0
      exact (List.nodup_append.1 h0).2.2 b hb b (List.mem_map.2 ⟨_, hx, rfl⟩) rfl
  glob := G.ev he h.glob

theorem ObjSat.sub {σ σ' : Store} {w : World} (hs : Sub σ' σ) {b : Nat} {x : AObj} (h : ObjSat σ w b x) : ObjSat σ' w b x := by
  cases x with
  | cells e cs =>
    obtain ⟨vs, h1, h2, h3⟩ := h
    exact ⟨vs, h1, h2, RepL.sub hs h3⟩
  | tok e k => exact h
  | map es =>
    obtain ⟨ents, c, h1, h2, h3⟩ := h
    exact ⟨ents, c, h1, h2, RepL.sub hs h3⟩

theorem Sat.sub {G : Glob} {σ σ' : Store} {w : World} (h : Sat G σ w) (hs : Sub σ' σ) (hn : σ'.keys.Nodup) : Sat G σ' w where
  nodup := hn
  obj b x hx := ObjSat.sub hs (h.obj b x (hs _ hx))
  glob := by
    have := G.ev (ρ := []) (Ev.of_sub hs w) (by simpa using h.glob)
    simpa using this

/-! ### new blocks -/

theorem Ev.alloc {σ : Store} {w : World} (o : Obj) (x : AObj) : Ev σ w ((w.heap.size, x) :: σ) (w.alloc o) where
  os := rfl
  tape := rfl
  output := rfl
  size := by simp
  block b hb hn := ⟨Below.heap_alloc w o b hb, by
    simp only [Store.keys, List.map_cons, List.mem_cons, not_or]
    exact ⟨by omega, hn⟩⟩
  shape b s hs := by
    have hb : b < w.heap.size := by
      unfold World.shape? at hs
      cases h : w.heap[b]? with
      | none => simp [h] at hs
      | some o => exact (Array.getElem?_eq_some_iff.1 h).1
    unfold World.shape? at *
    rw [Below.heap_alloc w o b hb]
    exact hs
  cell a v hv hm := by
    have hb := lt_of_cell hv
    refine ⟨by rw [World.cell?_alloc_lt w o a hb]; exact hv, ?_⟩
    rintro ⟨y, hy, hym⟩
    rcases List.mem_cons.1 hy with e | hy
    · have : a.block = w.heap.size := congrArg Prod.fst e
      omega
    · exact hm ⟨y, hy, hym⟩

theorem Ev.alloc0 {σ : Store} {w : World} (o : Obj) : Ev σ w σ (w.alloc o) where
  os := rfl
  tape := rfl
  output := rfl
  size := by simp
  block b hb hn := ⟨Below.heap_alloc w o b hb, hn⟩
  shape b s hs := by
    have hb : b < w.heap.size := by
      unfold World.shape? at hs
      cases h : w.heap[b]? with
      | none => simp [h] at hs
      | some o => exact (Array.getElem?_eq_some_iff.1 h).1
    unfold World.shape? at *
    rw [Below.heap_alloc w o b hb]
    exact hs
  cell a v hv hm := ⟨by rw [World.cell?_alloc_lt w o a (lt_of_cell hv)]; exact hv, hm⟩

theorem Ev.drew {σ : Store} {w : World} : Ev σ w σ w.drew :=
  ⟨rfl, rfl, rfl, Nat.le_refl _, fun _ _ h => ⟨rfl, h⟩, fun _ _ h => h, fun _ _ h h' => ⟨h, h'⟩⟩

end Go.Av
