/-
  THE LEXER's LAWS, 2: a token covers what it is written as; between the tokens lie blanks.
-/
import Derived.Test.YtmghejoigggooaaGreatDoorXTok21
namespace Go.Av
open Go Go.RowKit
set_option linter.unusedSimpArgs false
set_option linter.unusedVariables false

theorem u8_of {c : UInt8} {n : Nat} (h : c.toNat = n) : c = UInt8.ofNat n := by
  rw [← h]; simp

theorem unq_take : ∀ (n : Nat) (l : List UInt8) (p : List UInt8 × Nat), l.length ≤ n → unq l = some p → l.take p.2 = escS p.1 ++ [34]
  | 0, l, p, hn, h => by
    have : l = [] := List.length_eq_zero_iff.1 (by omega)
    subst this
    cases h
  | n + 1, [], p, hn, h => by cases h
  | n + 1, c :: l, p, hn, h => by
    rw [unq.eq_def] at h
    simp only at h
    split at h
    · rename_i hc
      cases h
      obtain rfl : c = 34 := u8_of hc
      rfl
    · rename_i hc
      split at h
      · rename_i hc2
        obtain rfl : c = 92 := u8_of hc2
        cases l with
        | nil => cases h
        | cons d l' =>
          simp only at h
          split at h
          · rename_i hd
            obtain ⟨q, hq, rfl⟩ := Option.map_eq_some_iff.1 h
            have := unq_take n l' q (by simp at hn; omega) hq
            have he : escC d = [92, d] := by unfold escC isEsc; rcases hd with h | h <;> simp [h]
            simp [List.take_succ_cons, this, escS, he]
          · cases h
      · rename_i hc2
        obtain ⟨q, hq, rfl⟩ := Option.map_eq_some_iff.1 h
        have := unq_take n l q (by simp at hn; omega) hq
        have he : escC c = [c] := by unfold escC isEsc; simp [hc, hc2]
        simp [List.take_succ_cons, this, escS, he]

theorem nextS_piece {s : List UInt8} {i : Nat} (hi : i < s.length) {k a : Nat} {t : List UInt8} {e : Nat} (h : nextS s i = .good k a t e) : (s.take e).drop i = pieceS k t ∧ e = i + (pieceS k t).length := by
  obtain ⟨h1, h2, h3⟩ := nextS_end hi h
  have key : (s.take e).drop i = pieceS k t → (s.take e).drop i = pieceS k t ∧ e = i + (pieceS k t).length := fun hk => ⟨hk, by rw [← hk]; simp; omega⟩
  refine key ?_
  unfold nextS at h
  split at h
  · obtain ⟨rfl, rfl, rfl, rfl⟩ := toldS_end h
    rfl
  · split at h
    · unfold numS at h
      split at h
      · cases h
      · obtain ⟨rfl, rfl, rfl, hk⟩ := toldS_end h
        rw [pieceS, if_neg]
        split at hk <;> omega
    · split at h
      · rename_i hc
        split at h
        · cases h
        · rename_i p hp
          cases h
          have h4 := unq_take _ _ _ (Nat.le_refl _) hp
          have h5 : s.getD i 0 = 34 := u8_of hc
          rw [pieceS, if_pos (show ((1 : Nat) : Int) = 1 from rfl), quoteS, ← h4, show p.2 + i + 1 = i + (p.2 + 1) by omega, List.drop_take, drop_get s i hi, h5, show i + (p.2 + 1) - i = p.2 + 1 by omega, List.take_succ_cons]
      · split at h
        · cases h
          rw [pieceS, if_neg (by decide), one_byte s i hi]
        · cases h

def AllBlank (s : List UInt8) (i e : Nat) : Prop := ∀ j, i ≤ j → j < e → isBlank (s.getD j 0) = true
/-- From an offset on: blanks, a token as it is written, and so on; blanks to the end. -/
def Chain (s : List UInt8) : Nat → List Tok → Prop
  | i, [] => AllBlank s i s.length
  | i, x :: l => i ≤ x.at_ ∧ AllBlank s i x.at_ ∧ x.at_ + (pieceS x.kind x.text).length ≤ s.length ∧ (s.take (x.at_ + (pieceS x.kind x.text).length)).drop x.at_ = pieceS x.kind x.text ∧ Chain s (x.at_ + (pieceS x.kind x.text).length) l

theorem AllBlank.more {s : List UInt8} {i e : Nat} (hb : isBlank (s.getD i 0) = true) (h : AllBlank s (i + 1) e) : AllBlank s i e := by
  intro j hj hje
  by_cases hji : j = i
  · rw [hji]; exact hb
  · exact h j (by omega) hje
theorem Chain.more {s : List UInt8} {i : Nat} {l : List Tok} (hb : isBlank (s.getD i 0) = true) (h : Chain s (i + 1) l) : Chain s i l := by
  cases l with
  | nil => exact AllBlank.more hb h
  | cons x l => exact ⟨by have := h.1; omega, AllBlank.more hb h.2.1, h.2.2⟩

theorem scan_chain (s : List UInt8) : ∀ (n i : Nat) (l : List Tok), s.length - i ≤ n → scanAt s i = .good l → Chain s i l := by
  intro n
  induction n with
  | zero => intro i l hn h; rw [scan_end s i (by omega)] at h; cases h; intro j hj1 hj2; omega
  | succ n ih =>
    intro i l hn h
    by_cases hi : i < s.length
    · cases hb : isBlank (s.getD i 0) with
      | true =>
        rw [scan_blank s i hi hb] at h
        exact Chain.more hb (ih (i + 1) l (by omega) h)
      | false =>
        cases hx : nextS s i with
        | bad m => rw [scan_bad s i m hi hb hx] at h; cases h
        | good k a t e =>
          obtain ⟨e1, e2, _⟩ := nextS_end hi hx
          obtain ⟨e3, e4⟩ := nextS_piece hi hx
          rw [scan_good s i hi hb hx] at h
          cases hr : scanAt s e with
          | bad m => rw [hr] at h; cases h
          | good l' =>
            rw [hr] at h
            simp only [Lx.pre] at h
            cases h
            have h5 := ih e l' (by omega) hr
            subst e4
            exact ⟨Nat.le_refl _, fun j hj1 (hj2 : j < i) => by omega, e2, e3, h5⟩
    · rw [scan_end s i (by omega)] at h; cases h; intro j hj1 hj2; omega
end Go.Av
