/-
  ABSTRACT VALUES, 1: what a value of the model stands for, in which memory, and how that lasts while memory grows.
-/
import Derived.WalkKit
namespace Go.Av
open Go Go.RowKit

/-- What a value stands for. 'lst': a slice whose cells no one will write again (nil or not is unknown where it is empty); 'own': a slice from the head of block b that may still be appended to; 'ref': a pointer to cells that no one will write again. -/
inductive AV where
  | any
  | bool (b : Bool)
  | int (k : IntKind) (n : Int)
  | str (s : List UInt8)
  | nil
  | sc (v : Value)
  | lst (sz : Nat) (rows : List (List AV))
  | own (b : Option Nat) (e : TypeId) (sz : Nat) (rows : List (List AV))
  | ref (cs : List AV)
  | agg (cs : List AV)
  | tup (cs : List AV)
  deriving Inhabited

/-- What may still be written: a block of cells; a block whose first k cells are fixed; a map. -/
inductive AObj where
  | cells (e : TypeId) (cs : List AV)
  | tok (e : TypeId) (k : Nat)
  | map (es : List (Value × AV))
  deriving Inhabited

abbrev Store := List (Nat × AObj)

def AObj.mut : AObj → Nat → Prop
  | .cells _ _, _ => True
  | .tok _ k, o => k ≤ o
  | .map _, _ => True

def Mut (σ : Store) (b o : Nat) : Prop := ∃ x, (b, x) ∈ σ ∧ x.mut o

def Store.keys (σ : Store) : List Nat := σ.map (·.1)

theorem Mut.append {σ τ : Store} {b o : Nat} : Mut (σ ++ τ) b o ↔ Mut σ b o ∨ Mut τ b o := by
  simp only [Mut, List.mem_append]
  constructor
  · rintro ⟨x, h | h, m⟩
    · exact .inl ⟨x, h, m⟩
    · exact .inr ⟨x, h, m⟩
  · rintro (⟨x, h, m⟩ | ⟨x, h, m⟩)
    · exact ⟨x, .inl h, m⟩
    · exact ⟨x, .inr h, m⟩

theorem Mut.of_key {σ : Store} {b o : Nat} (h : Mut σ b o) : b ∈ σ.keys := by
  obtain ⟨x, hx, _⟩ := h
  exact List.mem_map.2 ⟨_, hx, rfl⟩

theorem keys_append (σ τ : Store) : Store.keys (σ ++ τ) = σ.keys ++ τ.keys := by simp [Store.keys]

/-- A cell that holds u and will hold it for ever. -/
def Fixed (σ : Store) (w : World) (a : Addr) (u : Value) : Prop := w.cell? a = some u ∧ ¬ Mut σ a.block a.off

mutual
def Rep (σ : Store) (w : World) : AV → Value → Prop
  | .any, _ => True
  | .bool b, u => u = .bool b
  | .int k n, u => u = .int k n
  | .str s, u => u = .string ⟨⟨s⟩⟩
  | .nil, u => u = .slice none 0 0
  | .sc v, u => u = v
  | .lst sz rows, u => (u = .slice none 0 0 ∧ rows = []) ∨ ∃ a cap, u = .slice (some a) rows.length cap ∧ rows.length ≤ cap ∧ cap ≤ maxLen ∧ RepRows σ w a sz 0 rows
  | .own none _ _ rows, u => u = .slice none 0 0 ∧ rows = []
  | .own (some b) e sz rows, u => ∃ cap, u = .slice (some ⟨b, 0, none⟩) rows.length cap ∧ rows.length ≤ cap ∧ cap ≤ maxLen ∧ w.shape? b = some (e, cap * sz) ∧ RepRows σ w ⟨b, 0, none⟩ sz 0 rows
  | .ref cs, u => ∃ a, u = .pointer (some a) ∧ RepAt σ w a 0 cs
  | .agg cs, u => ∃ vs, u = .agg vs ∧ (∀ v ∈ vs.toList, v.oneCell' = true) ∧ RepL σ w cs vs.toList
  | .tup cs, u => ∃ vs, u = .tuple vs ∧ RepL σ w cs vs.toList
def RepL (σ : Store) (w : World) : List AV → List Value → Prop
  | [], vs => vs = []
  | x :: xs, vs => ∃ u us, vs = u :: us ∧ Rep σ w x u ∧ RepL σ w xs us
def RepAt (σ : Store) (w : World) (a : Addr) : Nat → List AV → Prop
  | _, [] => True
  | i, x :: xs => (∃ u, Fixed σ w (a.add i) u ∧ u.oneCell' = true ∧ Rep σ w x u) ∧ RepAt σ w a (i + 1) xs
def RepRows (σ : Store) (w : World) (a : Addr) (sz : Nat) : Nat → List (List AV) → Prop
  | _, [] => True
  | i, r :: rs => r.length = sz ∧ RepAt σ w a (i * sz) r ∧ RepRows σ w a sz (i + 1) rs
end

/-- How memory may change while the blocks of σ may be written: all else stays. -/
structure Ev (σ : Store) (w : World) (σ' : Store) (w' : World) : Prop where
  os : w'.os = w.os
  tape : w'.tape = w.tape
  output : w'.output = w.output
  size : w.heap.size ≤ w'.heap.size
  block : ∀ b, b < w.heap.size → b ∉ σ.keys → w'.heap[b]? = w.heap[b]? ∧ b ∉ σ'.keys
  shape : ∀ b s, w.shape? b = some s → w'.shape? b = some s
  cell : ∀ a v, w.cell? a = some v → ¬ Mut σ a.block a.off → w'.cell? a = some v ∧ ¬ Mut σ' a.block a.off

theorem Ev.refl (σ : Store) (w : World) : Ev σ w σ w :=
  ⟨rfl, rfl, rfl, Nat.le_refl _, fun _ _ h => ⟨rfl, h⟩, fun _ _ h => h, fun _ _ h h' => ⟨h, h'⟩⟩

theorem Ev.trans {σ σ₁ σ₂ : Store} {w w₁ w₂ : World} (h : Ev σ w σ₁ w₁) (k : Ev σ₁ w₁ σ₂ w₂) : Ev σ w σ₂ w₂ where
  os := k.os.trans h.os
  tape := k.tape.trans h.tape
  output := k.output.trans h.output
  size := Nat.le_trans h.size k.size
  block b hb hn := by
    obtain ⟨h1, h2⟩ := h.block b hb hn
    obtain ⟨k1, k2⟩ := k.block b (Nat.lt_of_lt_of_le hb h.size) h2
    exact ⟨k1.trans h1, k2⟩
  shape b s hs := k.shape b s (h.shape b s hs)
  cell a v hv hm := by
    obtain ⟨h1, h2⟩ := h.cell a v hv hm
    exact k.cell a v h1 h2

theorem lt_of_cell {w : World} {a : Addr} {v : Value} (h : w.cell? a = some v) : a.block < w.heap.size := by
  unfold World.cell? at h
  cases hb : w.heap[a.block]? with
  | none => simp [hb] at h
  | some o => exact (Array.getElem?_eq_some_iff.1 hb).1

/-- In the frame ρ nothing is written. -/
theorem Fixed.ev {σ σ' ρ : Store} {w w' : World} (he : Ev σ w σ' w') {a : Addr} {u : Value} (h : Fixed (σ ++ ρ) w a u) : Fixed (σ' ++ ρ) w' a u := by
  obtain ⟨h1, h2⟩ := h
  rw [Mut.append] at h2
  obtain ⟨k1, k2⟩ := he.cell a u h1 (fun m => h2 (.inl m))
  exact ⟨k1, by rw [Mut.append]; exact fun m => m.elim k2 (fun m => h2 (.inr m))⟩

mutual
theorem Rep.ev {σ σ' ρ : Store} {w w' : World} (he : Ev σ w σ' w') : ∀ (x : AV) (u : Value), Rep (σ ++ ρ) w x u → Rep (σ' ++ ρ) w' x u
  | .any, _, _ => by simp only [Rep]
  | .bool b, u, h => by simp only [Rep] at *; exact h
  | .int k n, u, h => by simp only [Rep] at *; exact h
  | .str s, u, h => by simp only [Rep] at *; exact h
  | .nil, u, h => by simp only [Rep] at *; exact h
  | .sc v, u, h => by simp only [Rep] at *; exact h
  | .lst sz rows, u, h => by
    simp only [Rep] at *
    rcases h with h | ⟨a, cap, h1, h2, h3, h4⟩
    · exact .inl h
    · exact .inr ⟨a, cap, h1, h2, h3, RepRows.ev he a sz 0 rows h4⟩
  | .own none _ _ rows, u, h => by simp only [Rep] at *; exact h
  | .own (some b) e sz rows, u, h => by
    simp only [Rep] at *
    obtain ⟨cap, h1, h2, h3, h4, h5⟩ := h
    exact ⟨cap, h1, h2, h3, he.shape _ _ h4, RepRows.ev he _ sz 0 rows h5⟩
  | .ref cs, u, h => by
    simp only [Rep] at *
    obtain ⟨a, h1, h2⟩ := h
    exact ⟨a, h1, RepAt.ev he a 0 cs h2⟩
  | .agg cs, u, h => by
    simp only [Rep] at *
    obtain ⟨vs, h1, h2, h3⟩ := h
    exact ⟨vs, h1, h2, RepL.ev he cs _ h3⟩
  | .tup cs, u, h => by
    simp only [Rep] at *
    obtain ⟨vs, h1, h2⟩ := h
    exact ⟨vs, h1, RepL.ev he cs _ h2⟩
theorem RepL.ev {σ σ' ρ : Store} {w w' : World} (he : Ev σ w σ' w') : ∀ (xs : List AV) (us : List Value), RepL (σ ++ ρ) w xs us → RepL (σ' ++ ρ) w' xs us
  | [], us, h => by simp only [RepL] at *; exact h
  | x :: xs, vs, h => by
    simp only [RepL] at *
    obtain ⟨u, us, h1, h2, h3⟩ := h
    exact ⟨u, us, h1, Rep.ev he x u h2, RepL.ev he xs us h3⟩
theorem RepAt.ev {σ σ' ρ : Store} {w w' : World} (he : Ev σ w σ' w') (a : Addr) : ∀ (i : Nat) (xs : List AV), RepAt (σ ++ ρ) w a i xs → RepAt (σ' ++ ρ) w' a i xs
  | _, [], _ => by simp only [RepAt]
  | i, x :: xs, h => by
    simp only [RepAt] at *
    obtain ⟨⟨u, h1, ho, h2⟩, h3⟩ := h
    exact ⟨⟨u, h1.ev he, ho, Rep.ev he x u h2⟩, RepAt.ev he a (i + 1) xs h3⟩
theorem RepRows.ev {σ σ' ρ : Store} {w w' : World} (he : Ev σ w σ' w') (a : Addr) (sz : Nat) : ∀ (i : Nat) (rs : List (List AV)), RepRows (σ ++ ρ) w a sz i rs → RepRows (σ' ++ ρ) w' a sz i rs
  | _, [], _ => by simp only [RepRows]
  | i, r :: rs, h => by
    simp only [RepRows] at *
    obtain ⟨h1, h2, h3⟩ := h
    exact ⟨h1, RepAt.ev he a _ r h2, RepRows.ev he a sz (i + 1) rs h3⟩
end

end Go.Av
