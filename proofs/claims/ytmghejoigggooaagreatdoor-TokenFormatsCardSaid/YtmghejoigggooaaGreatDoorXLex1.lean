/-
  THE LEXER's LAWS, 1: scanning a string with something behind it, ahead of it.
-/
import Derived.Test.YtmghejoigggooaaGreatDoorXTok6
namespace Go.Av
open Go Go.RowKit
set_option linter.unusedVariables false
set_option linter.unusedSimpArgs false

/-- Nothing, or a blank first. -/
def Stop0 (r : List UInt8) : Prop := ∀ c, r.head? = some c → isBlank c = true

theorem getD_app (s r : List UInt8) (i : Nat) (h : i < s.length) : (s ++ r).getD i 0 = s.getD i 0 := by
  simp [List.getD_eq_getElem?_getD, List.getElem?_append_left h]
theorem getD_app2 (q s : List UInt8) (i : Nat) : (q ++ s).getD (q.length + i) 0 = s.getD i 0 := by
  simp [List.getD_eq_getElem?_getD, List.getElem?_append_right (Nat.le_add_right q.length i)]

theorem takeWhile_app (p : UInt8 → Bool) (r : List UInt8) (h : ∀ c, r.head? = some c → p c = false) : ∀ l : List UInt8, (l ++ r).takeWhile p = l.takeWhile p
  | [] => by
    cases r with
    | nil => rfl
    | cons c r => simp [List.takeWhile_cons, h c rfl]
  | x :: l => by
    simp only [List.cons_append, List.takeWhile_cons]
    split
    · rw [takeWhile_app p r h l]
    · rfl

theorem runEnd_app (p : UInt8 → Bool) (s r : List UInt8) (k : Nat) (hk : k ≤ s.length) (h : ∀ c, r.head? = some c → p c = false) : runEnd p (s ++ r) k = runEnd p s k := by
  unfold runEnd
  rw [List.drop_append_of_le_length hk, takeWhile_app p r h]
theorem runEnd_shift (p : UInt8 → Bool) (q s : List UInt8) (k : Nat) : runEnd p (q ++ s) (q.length + k) = q.length + runEnd p s k := by
  unfold runEnd
  rw [List.drop_append]
  simp [List.drop_eq_nil_of_le (Nat.le_add_right q.length k), Nat.add_assoc]

theorem blank_cls {c : UInt8} (h : isBlank c = true) : isInner c = false ∧ isCap c = false ∧ isDigit c = false ∧ isSmall c = false ∧ isSign c = false := by
  simp only [isBlank, Bool.or_eq_true, beq_iff_eq] at h
  unfold isInner isCap isDigit isSmall isSign
  rcases h with h | h <;> rw [h] <;> exact ⟨rfl, rfl, rfl, rfl, rfl⟩

theorem toldS_app (s r : List UInt8) (a e k : Nat) (p : UInt8 → Bool) (he : e ≤ s.length) (h : ∀ c, r.head? = some c → p c = false) : toldS (s ++ r) a e k p = toldS s a e k p := by
  unfold toldS
  have e1 : (e < (s ++ r).length ∧ p ((s ++ r).getD e 0) = true) ↔ (e < s.length ∧ p (s.getD e 0) = true) := by
    by_cases hl : e < s.length
    · rw [getD_app s r e hl]
      simp only [List.length_append]
      constructor
      · rintro ⟨_, h2⟩; exact ⟨hl, h2⟩
      · rintro ⟨_, h2⟩; exact ⟨by omega, h2⟩
    · have : e = s.length := by omega
      subst this
      constructor
      · rintro ⟨h1, h2⟩
        exfalso
        cases r with
        | nil => simp at h1
        | cons c r =>
          have h3 := getD_app2 s (c :: r) 0
          rw [Nat.add_zero] at h3
          rw [h3] at h2
          have := h c rfl
          simp at h2
          rw [this] at h2; cases h2
      · rintro ⟨h1, _⟩; omega
  have e2 : ((s ++ r).take e).drop a = (s.take e).drop a := by rw [List.take_append_of_le_length he]
  rw [e2]
  by_cases h1 : 24 < e - a
  · rw [if_pos h1, if_pos h1]
  · rw [if_neg h1, if_neg h1]
    by_cases h2 : e < s.length ∧ p (s.getD e 0) = true
    · rw [if_pos h2, if_pos (e1.2 h2)]
    · rw [if_neg h2, if_neg (fun h => h2 (e1.1 h))]

def Pc.shift (d : Nat) : Pc → Pc
  | .bad n => .bad (d + n)
  | .good k a t e => .good k (d + a) t (d + e)

theorem toldS_shift (q s : List UInt8) (a e k : Nat) (p : UInt8 → Bool) : toldS (q ++ s) (q.length + a) (q.length + e) k p = (toldS s a e k p).shift q.length := by
  unfold toldS
  have e1 : (q.length + e < (q ++ s).length ∧ p ((q ++ s).getD (q.length + e) 0) = true) ↔ (e < s.length ∧ p (s.getD e 0) = true) := by
    rw [getD_app2]
    simp only [List.length_append]
    constructor
    · rintro ⟨h1, h2⟩; exact ⟨by omega, h2⟩
    · rintro ⟨h1, h2⟩; exact ⟨by omega, h2⟩
  have e2 : ((q ++ s).take (q.length + e)).drop (q.length + a) = (s.take e).drop a := by
    rw [List.take_append, List.drop_append]
    simp [List.take_of_length_le (Nat.le_add_right q.length e), List.drop_eq_nil_of_le (Nat.le_add_right q.length a)]
  rw [e2, show q.length + e - (q.length + a) = e - a by omega]
  by_cases h1 : 24 < e - a
  · rw [if_pos h1, if_pos h1]; rfl
  · rw [if_neg h1, if_neg h1]
    by_cases h2 : e < s.length ∧ p (s.getD e 0) = true
    · rw [if_pos h2, if_pos (e1.2 h2)]; rfl
    · rw [if_neg h2, if_neg (fun h => h2 (e1.1 h))]; rfl

theorem unq_app : ∀ (n : Nat) (l r : List UInt8) (p : List UInt8 × Nat), l.length ≤ n → unq l = some p → unq (l ++ r) = some p
  | 0, l, r, p, hn, h => by
    have : l = [] := List.length_eq_zero_iff.1 (by omega)
    subst this
    cases h
  | n + 1, [], r, p, hn, h => by cases h
  | n + 1, c :: l, r, p, hn, h => by
    rw [unq.eq_def] at h
    rw [List.cons_append, unq.eq_def]
    simp only at h ⊢
    split at h
    · rename_i hc; rw [if_pos hc]; exact h
    · rename_i hc
      rw [if_neg hc]
      split at h
      · rename_i hc2
        rw [if_pos hc2]
        cases l with
        | nil => cases h
        | cons d l' =>
          simp only [List.cons_append] at h ⊢
          split at h
          · rename_i hd
            rw [if_pos hd]
            obtain ⟨q, hq, rfl⟩ := Option.map_eq_some_iff.1 h
            rw [unq_app n l' r q (by simp at hn; omega) hq]
            rfl
          · cases h
      · rename_i hc2
        rw [if_neg hc2]
        obtain ⟨q, hq, rfl⟩ := Option.map_eq_some_iff.1 h
        rw [unq_app n l r q (by simp at hn; omega) hq]
        rfl

theorem numS_app (s r : List UInt8) (i : Nat) (hi : i < s.length) (hr : Stop0 r) : numS (s ++ r) i = numS s i := by
  have h1 : runEnd isDigit (s ++ r) i = runEnd isDigit s i := runEnd_app _ _ _ _ (by omega) (fun c hc => (blank_cls (hr c hc)).2.2.1)
  have hd := runEnd_le isDigit s i (by omega)
  have h2 : runEnd isCap (s ++ r) (runEnd isDigit s i) = runEnd isCap s (runEnd isDigit s i) := runEnd_app _ _ _ _ hd (fun c hc => (blank_cls (hr c hc)).2.1)
  have hc := runEnd_le isCap s _ hd
  unfold numS
  rw [h1, h2, getD_app s r i hi, toldS_app s r _ _ _ _ hc (fun c hc => (blank_cls (hr c hc)).1)]

theorem wordS_app (s r : List UInt8) (i : Nat) (hi : i < s.length) (hr : Stop0 r) : wordS (s ++ r) i = wordS s i := by
  have h1 : runEnd isInner (s ++ r) i = runEnd isInner s i := runEnd_app _ _ _ _ (by omega) (fun c hc => (blank_cls (hr c hc)).1)
  have hd := runEnd_le isInner s i (by omega)
  unfold wordS
  rw [h1, toldS_app s r _ _ _ _ hd (fun c hc => (blank_cls (hr c hc)).2.1)]

theorem nextS_app {s r : List UInt8} {i : Nat} (hi : i < s.length) (hr : Stop0 r) {k a : Nat} {t : List UInt8} {e : Nat} (h : nextS s i = .good k a t e) : nextS (s ++ r) i = .good k a t e := by
  unfold nextS at h ⊢
  rw [getD_app s r i hi, wordS_app s r i hi hr, numS_app s r i hi hr]
  split at h
  · rename_i hc; rw [if_pos hc]; exact h
  · rename_i hc
    rw [if_neg hc]
    split at h
    · rename_i hc; rw [if_pos hc]; exact h
    · rename_i hc
      rw [if_neg hc]
      split at h
      · rename_i hc
        rw [if_pos hc]
        split at h
        · cases h
        · rename_i p hp
          rw [List.drop_append_of_le_length (by omega), unq_app _ _ r p (Nat.le_refl _) hp]
          exact h
      · rename_i hc; rw [if_neg hc]; exact h

theorem nextS_shift (q s : List UInt8) (i : Nat) : nextS (q ++ s) (q.length + i) = (nextS s i).shift q.length := by
  unfold nextS
  rw [getD_app2]
  have hd : (q ++ s).drop (q.length + i + 1) = s.drop (i + 1) := by
    rw [List.drop_append, List.drop_eq_nil_of_le (by omega), List.nil_append]
    congr 1; omega
  rw [hd]
  split
  · unfold wordS
    rw [runEnd_shift, toldS_shift]
  · split
    · unfold numS
      rw [runEnd_shift, runEnd_shift, getD_app2, toldS_shift]
      by_cases h1 : (s.getD i 0).toNat = 48 ∧ i + 1 < runEnd isDigit s i
      · rw [if_pos h1, if_pos ⟨h1.1, by omega⟩]; rfl
      · rw [if_neg h1, if_neg (fun h => h1 ⟨h.1, by omega⟩)]
        have : (q.length + runEnd isDigit s i < q.length + runEnd isCap s (runEnd isDigit s i)) ↔ (runEnd isDigit s i < runEnd isCap s (runEnd isDigit s i)) := by omega
        simp only [this]
    · split
      · split
        · rfl
        · simp only [Pc.shift]; congr 1; omega
      · split
        · simp only [Pc.shift]; congr 1
        · rfl

def Tok.shift (d : Nat) (t : Tok) : Tok := ⟨t.kind, d + t.at_, t.text⟩
def Lx.shift (d : Nat) : Lx → Lx
  | .bad n => .bad (d + n)
  | .good l => .good (l.map (Tok.shift d))
theorem Lx.shift_pre (d : Nat) (l : List Tok) (x : Lx) : (x.pre l).shift d = (x.shift d).pre (l.map (Tok.shift d)) := by
  cases x <;> simp [Lx.pre, Lx.shift]

theorem scan_shift (q s : List UInt8) : ∀ (n i : Nat), s.length - i ≤ n → scanAt (q ++ s) (q.length + i) = (scanAt s i).shift q.length := by
  intro n
  induction n with
  | zero => intro i h; rw [scan_end s i (by omega), scan_end _ _ (by simp; omega)]; rfl
  | succ n ih =>
    intro i h
    by_cases hi : i < s.length
    · have hi' : q.length + i < (q ++ s).length := by simp; omega
      cases hb : isBlank (s.getD i 0) with
      | true => rw [scan_blank s i hi hb, scan_blank _ _ hi' (by rw [getD_app2]; exact hb), Nat.add_assoc, ih (i + 1) (by omega)]
      | false =>
        have hb' : isBlank ((q ++ s).getD (q.length + i) 0) = false := by rw [getD_app2]; exact hb
        have hs := nextS_shift q s i
        cases hx : nextS s i with
        | bad m =>
          rw [hx] at hs
          rw [scan_bad s i m hi hb hx, scan_bad _ _ _ hi' hb' hs]; rfl
        | good k a t e =>
          obtain ⟨e1, e2, rfl⟩ := nextS_end hi hx
          rw [hx] at hs
          rw [scan_good s a hi hb hx, scan_good _ _ hi' hb' hs, ih e (by omega), Lx.shift_pre]
          rfl
    · rw [scan_end s i (by omega), scan_end _ _ (by simp; omega)]; rfl

theorem scan_app (s r : List UInt8) (hr : Stop0 r) : ∀ (n i : Nat) (l : List Tok), s.length - i ≤ n → i ≤ s.length → scanAt s i = .good l → scanAt (s ++ r) i = (scanAt (s ++ r) s.length).pre l := by
  intro n
  induction n with
  | zero =>
    intro i l h hi hl
    have : i = s.length := by omega
    subst this
    rw [scan_end s _ (Nat.le_refl _)] at hl
    cases hl
    rw [Lx.pre_nil]
  | succ n ih =>
    intro i l h hi hl
    by_cases hlt : i < s.length
    · have hi' : i < (s ++ r).length := by simp; omega
      cases hb : isBlank (s.getD i 0) with
      | true =>
        rw [scan_blank s i hlt hb] at hl
        rw [scan_blank _ _ hi' (by rw [getD_app s r i hlt]; exact hb)]
        exact ih (i + 1) l (by omega) (by omega) hl
      | false =>
        have hb' : isBlank ((s ++ r).getD i 0) = false := by rw [getD_app s r i hlt]; exact hb
        cases hx : nextS s i with
        | bad m => rw [scan_bad s i m hlt hb hx] at hl; cases hl
        | good k a t e =>
          obtain ⟨e1, e2, rfl⟩ := nextS_end hlt hx
          rw [scan_good s a hlt hb hx] at hl
          cases hq : scanAt s e with
          | bad m => rw [hq] at hl; cases hl
          | good l' =>
            rw [hq] at hl
            cases hl
            rw [scan_good _ _ hi' hb' (nextS_app hlt hr hx), ih e l' (by omega) e2 hq, Lx.pre_pre]
    · have : i = s.length := by omega
      subst this
      rw [scan_end s _ (Nat.le_refl _)] at hl
      cases hl
      rw [Lx.pre_nil]

theorem scan_blanks (s : List UInt8) : ∀ (bl : List UInt8) (i : Nat), (∀ c ∈ bl, isBlank c = true) → (s.drop i).take bl.length = bl → scanAt s i = scanAt s (i + bl.length)
  | [], i, _, _ => by simp
  | c :: bl, i, hb, h => by
    have hi : i < s.length := by
      rcases Nat.lt_or_ge i s.length with h1 | h1
      · exact h1
      · rw [List.drop_eq_nil_of_le h1] at h; simp at h
    rw [drop_get s i hi] at h
    simp only [List.length_cons, List.take_succ_cons, List.cons.injEq] at h
    rw [scan_blank s i hi (by rw [h.1]; exact hb c (List.mem_cons_self ..)), scan_blanks s bl (i + 1) (fun x hx => hb x (List.mem_cons_of_mem _ hx)) h.2]
    congr 1
    simp; omega

/-- Two strings with white space between. -/
theorem scan_join (s bl t : List UInt8) (hbl : ∀ c ∈ bl, isBlank c = true) (hne : bl ≠ []) (a b : List Tok) (ha : scanAt s 0 = .good a) (hb : scanAt t 0 = .good b) :
    scanAt (s ++ bl ++ t) 0 = .good (a ++ b.map (Tok.shift (s.length + bl.length))) := by
  have hr : Stop0 (bl ++ t) := by
    intro c hc
    cases bl with
    | nil => exact absurd rfl hne
    | cons x bl => simp at hc; subst hc; exact hbl _ (List.mem_cons_self ..)
  rw [List.append_assoc, scan_app s (bl ++ t) hr _ 0 a (Nat.le_refl _) (Nat.zero_le _) ha,
    scan_blanks (s ++ (bl ++ t)) bl s.length hbl (by rw [List.drop_append_of_le_length (Nat.le_refl _)]; simp)]
  have h := scan_shift (s ++ bl) t t.length 0 (by omega)
  rw [List.append_assoc, List.length_append, Nat.add_zero, hb] at h
  rw [h]
  rfl
end Go.Av
