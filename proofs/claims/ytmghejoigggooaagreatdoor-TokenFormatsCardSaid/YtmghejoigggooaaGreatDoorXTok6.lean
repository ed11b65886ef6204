/-
  THE LEXER, 6: what scanning is; the reference's Scan.
-/
import Derived.Test.YtmghejoigggooaaGreatDoorXTok5
namespace Go.Av
open Go Go.RowKit Go.Proofs
set_option linter.unusedVariables false
set_option linter.unusedSimpArgs false

structure Tok where
  kind : Nat
  at_ : Nat
  text : List UInt8

def Tok.row (t : Tok) : List AV := [.int .i64 t.kind, .int .i64 t.at_, .str t.text]
def rowsT (l : List Tok) : List (List AV) := l.map Tok.row

def nextS (s : List UInt8) (i : Nat) : Pc :=
  if isSmall (s.getD i 0) then wordS s i else if isDigit (s.getD i 0) then numS s i
  else if (s.getD i 0).toNat = 34 then match unq (s.drop (i + 1)) with
    | none => .bad i
    | some p => .good 1 i p.1 (p.2 + i + 1)
  else if isSign (s.getD i 0) then .good 4 i [s.getD i 0] (i + 1) else .bad i

/-- The outcome of a scan: an error at an offset, or tokens. -/
inductive Lx where
  | bad (n : Nat)
  | good (l : List Tok)

def Lx.pre (l : List Tok) : Lx → Lx
  | .bad n => .bad n
  | .good m => .good (l ++ m)

def scanAt (s : List UInt8) (i : Nat) : Lx :=
  if h : i < s.length then
    if isBlank (s.getD i 0) then scanAt s (i + 1)
    else match nextS s i with
      | .bad n => .bad n
      | .good k a t e => if i < e ∧ e ≤ s.length then (scanAt s e).pre [⟨k, a, t⟩] else .bad i
  else .good []
termination_by s.length - i
decreasing_by all_goals omega

theorem toldS_end {s : List UInt8} {a e k : Nat} {p : UInt8 → Bool} {k' a' : Nat} {t : List UInt8} {e' : Nat} (h : toldS s a e k p = .good k' a' t e') : e' = e ∧ a' = a ∧ t = (s.take e).drop a ∧ k' = k := by
  unfold toldS at h
  split at h
  · cases h
  · split at h
    · cases h
    · cases h; exact ⟨rfl, rfl, rfl, rfl⟩

theorem unq_len : ∀ (n : Nat) (l : List UInt8) (p : List UInt8 × Nat), l.length ≤ n → unq l = some p → 1 ≤ p.2 ∧ p.2 ≤ l.length ∧ p.1.length < p.2
  | 0, l, p, hn, h => by
    have : l = [] := List.length_eq_zero_iff.1 (by omega)
    subst this
    cases h
  | n + 1, [], p, hn, h => by cases h
  | n + 1, c :: l, p, hn, h => by
    rw [unq.eq_def] at h
    simp only at h
    split at h
    · cases h; simp
    · split at h
      · cases l with
        | nil => cases h
        | cons d l' =>
          simp only at h
          split at h
          · obtain ⟨q, hq, rfl⟩ := Option.map_eq_some_iff.1 h
            have := unq_len n l' q (by simp at hn; omega) hq
            simp
            omega
          · cases h
      · obtain ⟨q, hq, rfl⟩ := Option.map_eq_some_iff.1 h
        have := unq_len n l q (by simp at hn; omega) hq
        simp
        omega

theorem runEnd_gt (p : UInt8 → Bool) (s : List UInt8) (k : Nat) (h : k < s.length) (hp : p (s.getD k 0) = true) : k < runEnd p s k := by
  rw [runEnd_yes p s k h hp]
  exact runEnd_ge p s (k + 1)

theorem nextS_end {s : List UInt8} {i : Nat} (hi : i < s.length) {k a : Nat} {t : List UInt8} {e : Nat} (h : nextS s i = .good k a t e) : i < e ∧ e ≤ s.length ∧ a = i := by
  unfold nextS at h
  split at h
  · rename_i hc
    obtain ⟨h1, h2, _⟩ := toldS_end h
    have := runEnd_gt isInner s i hi (by unfold isInner; rw [hc]; rfl)
    have := runEnd_le isInner s i (by omega)
    exact ⟨by omega, by omega, h2⟩
  · split at h
    · rename_i hc
      unfold numS at h
      split at h
      · cases h
      · obtain ⟨h1, h2, _⟩ := toldS_end h
        have := runEnd_gt isDigit s i hi hc
        have := runEnd_le isDigit s i (by omega)
        have := runEnd_ge isCap s (runEnd isDigit s i)
        have := runEnd_le isCap s (runEnd isDigit s i) (by omega)
        exact ⟨by omega, by omega, h2⟩
    · split at h
      · split at h
        · cases h
        · rename_i p hp
          cases h
          have := unq_len _ _ _ (Nat.le_refl _) hp
          simp at this
          exact ⟨by omega, by omega, rfl⟩
      · split at h
        · cases h; exact ⟨by omega, by omega, rfl⟩
        · cases h

theorem scan_end (s : List UInt8) (i : Nat) (h : s.length ≤ i) : scanAt s i = .good [] := by
  rw [scanAt, dif_neg (by omega)]
theorem scan_blank (s : List UInt8) (i : Nat) (h : i < s.length) (hb : isBlank (s.getD i 0) = true) : scanAt s i = scanAt s (i + 1) := by
  rw [scanAt, dif_pos h, if_pos hb]
theorem scan_bad (s : List UInt8) (i n : Nat) (h : i < s.length) (hb : isBlank (s.getD i 0) = false) (hn : nextS s i = .bad n) : scanAt s i = .bad n := by
  rw [scanAt, dif_pos h, if_neg (by rw [hb]; simp), hn]
theorem scan_good (s : List UInt8) (i : Nat) (h : i < s.length) (hb : isBlank (s.getD i 0) = false) {k a : Nat} {t : List UInt8} {e : Nat} (hn : nextS s i = .good k a t e) :
    scanAt s i = (scanAt s e).pre [⟨k, i, t⟩] := by
  obtain ⟨h1, h2, rfl⟩ := nextS_end h hn
  rw [scanAt, dif_pos h, if_neg (by rw [hb]; simp), hn]
  simp only [if_pos (And.intro h1 h2)]
theorem scan_run (s : List UInt8) (i : Nat) (h : i ≤ s.length) : scanAt s (runEnd isBlank s i) = scanAt s i := by
  have key : ∀ n i, s.length - i ≤ n → i ≤ s.length → scanAt s (runEnd isBlank s i) = scanAt s i := by
    intro n
    induction n with
    | zero => intro i hn hi; rw [runEnd_stop isBlank s i (by omega)]
    | succ n ih =>
      intro i hn hi
      by_cases hlt : i < s.length
      · cases hb : isBlank (s.getD i 0) with
        | true => rw [runEnd_yes isBlank s i hlt hb, scan_blank s i hlt hb, ih (i + 1) (by omega) (by omega)]
        | false => rw [runEnd_no isBlank s i hlt hb]
      · rw [runEnd_stop isBlank s i (by omega)]
  exact key _ i (Nat.le_refl _) h
theorem Lx.pre_pre (l m : List Tok) (x : Lx) : (x.pre m).pre l = x.pre (l ++ m) := by
  cases x <;> simp [Lx.pre]
theorem Lx.pre_nil (x : Lx) : x.pre [] = x := by
  cases x <;> simp [Lx.pre]

/-- What Scan hands back. -/
def Lx.av (k : IntKind) (s : List UInt8) : Lx → AV
  | .bad n => .tup [.nil, .int .i64 n, .int k 2]
  | .good l => .tup [.lst 3 (rowsT l), .int .i64 s.length, .int k 0]
end Go.Av
