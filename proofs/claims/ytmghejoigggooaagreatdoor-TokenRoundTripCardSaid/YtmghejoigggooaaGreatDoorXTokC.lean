/-
  THE LEXER's LAWS, 4: a token of a string scans alone; what is formatted scans to the same tokens.
-/
import Derived.Test.YtmghejoigggooaaGreatDoorXTokB
namespace Go.Av
open Go Go.RowKit
set_option linter.unusedSimpArgs false
set_option linter.unusedVariables false

theorem takeWhile_cut (p : UInt8 → Bool) : ∀ (l r : List UInt8), ((l ++ r).takeWhile p).length ≤ l.length → l.takeWhile p = (l ++ r).takeWhile p
  | [], r, h => by
    have : ([] ++ r : List UInt8).takeWhile p = [] := List.length_eq_zero_iff.1 (by simpa using h)
    rw [this]; rfl
  | x :: l, r, h => by
    simp only [List.cons_append, List.takeWhile_cons] at h ⊢
    split at h
    · rename_i hx
      rw [if_pos hx, if_pos hx, takeWhile_cut p l r (by simpa using h)]
    · rename_i hx
      rw [if_neg hx, if_neg hx]
theorem runEnd_cut (p : UInt8 → Bool) (s r : List UInt8) (k : Nat) (hk : k ≤ s.length) (h : runEnd p (s ++ r) k ≤ s.length) : runEnd p s k = runEnd p (s ++ r) k := by
  unfold runEnd at h ⊢
  rw [List.drop_append_of_le_length hk] at h ⊢
  rw [takeWhile_cut p _ r (by simp; omega)]

theorem toldS_bad {s : List UInt8} {a e k : Nat} {p : UInt8 → Bool} {n : Nat} (h : toldS s a e k p = .bad n) : n = a ∨ n = e := by
  unfold toldS at h
  split at h
  · cases h; exact Or.inl rfl
  · split at h
    · cases h; exact Or.inr rfl
    · cases h
theorem nextS_bad_le {s : List UInt8} {i n : Nat} (hi : i < s.length) (h : nextS s i = .bad n) : n ≤ s.length := by
  unfold nextS at h
  split at h
  · have := runEnd_le isInner s i (by omega)
    rcases toldS_bad h with h | h <;> omega
  · split at h
    · unfold numS at h
      have h1 := runEnd_le isDigit s i (by omega)
      have h2 := runEnd_le isCap s _ h1
      split at h
      · cases h; omega
      · rcases toldS_bad h with h | h <;> omega
    · split at h
      · split at h
        · cases h; omega
        · cases h
      · split at h
        · cases h
        · cases h; omega
theorem scan_bad_le (s : List UInt8) : ∀ (n i m : Nat), s.length - i ≤ n → scanAt s i = .bad m → m ≤ s.length := by
  intro n
  induction n with
  | zero => intro i m hn h; rw [scan_end s i (by omega)] at h; cases h
  | succ n ih =>
    intro i m hn h
    by_cases hi : i < s.length
    · cases hb : isBlank (s.getD i 0) with
      | true => rw [scan_blank s i hi hb] at h; exact ih (i + 1) m (by omega) h
      | false =>
        cases hx : nextS s i with
        | bad m' =>
          rw [scan_bad s i m' hi hb hx] at h
          cases h
          exact nextS_bad_le hi hx
        | good k a t e =>
          obtain ⟨e1, e2, _⟩ := nextS_end hi hx
          rw [scan_good s i hi hb hx] at h
          cases hr : scanAt s e with
          | bad m' => rw [hr] at h; cases h; exact ih e _ (by omega) hr
          | good l' => rw [hr] at h; cases h
    · rw [scan_end s i (by omega)] at h; cases h

theorem toldS_cut {p r : List UInt8} {k : Nat} {q : UInt8 → Bool} {a e : Nat} (he : e = p.length) {k' a' : Nat} {t : List UInt8} {e' : Nat} (h : toldS (p ++ r) a e k q = .good k' a' t e') : toldS p a e k q = .good k' a' t e' := by
  unfold toldS at h ⊢
  have e2 : ((p ++ r).take e).drop a = (p.take e).drop a := by rw [List.take_append_of_le_length (by omega)]
  rw [e2] at h
  split at h
  · cases h
  · rename_i h1
    rw [if_neg h1]
    split at h
    · cases h
    · rw [if_neg (by rintro ⟨h, _⟩; omega)]
      exact h

theorem nextS_cut {p r : List UInt8} (hp : 0 < p.length) {k a : Nat} {t : List UInt8} (h : nextS (p ++ r) 0 = .good k a t p.length) : nextS p 0 = .good k a t p.length := by
  have h0 := getD_app p r 0 hp
  have hpos : 0 < (p ++ r).length := by simp; omega
  have hpc := nextS_piece hpos h
  unfold nextS at h
  rw [h0] at h
  by_cases c1 : isSmall (p.getD 0 0) = true
  · rw [if_pos c1] at h
    unfold nextS
    rw [if_pos c1]
    unfold wordS at h ⊢
    have hE := (toldS_end h).1
    rw [runEnd_cut isInner p r 0 (by omega) (by omega)]
    exact toldS_cut hE.symm h
  · rw [if_neg c1] at h
    by_cases c2 : isDigit (p.getD 0 0) = true
    · rw [if_pos c2] at h
      unfold nextS
      rw [if_neg c1, if_pos c2]
      unfold numS at h ⊢
      rw [h0] at h
      split at h
      · cases h
      · rename_i hz
        have hE := (toldS_end h).1
        have g1 := runEnd_ge isCap (p ++ r) (runEnd isDigit (p ++ r) 0)
        have d1 := runEnd_cut isDigit p r 0 (by omega) (by omega)
        have d2 := runEnd_cut isCap p r (runEnd isDigit (p ++ r) 0) (by omega) (by omega)
        rw [d1, d2, if_neg hz]
        exact toldS_cut hE.symm h
    · rw [if_neg c2] at h
      by_cases c3 : (p.getD 0 0).toNat = 34
      · rw [if_pos c3] at h
        split at h
        · cases h
        · rename_i u hu
          injection h with e1 e2 e3 e4
          subst e1 e2 e3
          have h4 : (p ++ r).take p.length = quoteS u.1 := by
            have := hpc.1
            rw [List.drop_zero, pieceS, if_pos (show ((1 : Nat) : Int) = 1 from rfl)] at this
            exact this
          rw [List.take_left' rfl] at h4
          rw [h4]
          exact nextS_quote u.1
      · rw [if_neg c3] at h
        by_cases c4 : isSign (p.getD 0 0) = true
        · rw [if_pos c4] at h
          unfold nextS
          rw [if_neg c1, if_neg c2, if_neg c3, if_pos c4]
          exact h
        · rw [if_neg c4] at h
          cases h

/-- A token of a string scans alone. -/
theorem nextS_alone {s : List UInt8} {i : Nat} (hi : i < s.length) (hb : isBlank (s.getD i 0) = false) {k a : Nat} {t : List UInt8} {e : Nat} (h : nextS s i = .good k a t e) : scanAt (pieceS k t) 0 = .good [⟨k, 0, t⟩] := by
  obtain ⟨h1, h2, rfl⟩ := nextS_end hi h
  obtain ⟨h3, h4⟩ := nextS_piece hi h
  have e1 : s.take a ++ s.drop a = s := List.take_append_drop a s
  have hl : (s.take a).length = a := by simp; omega
  have hsh := nextS_shift (s.take a) (s.drop a) 0
  rw [e1, Nat.add_zero, hl, h] at hsh
  have e2 : s.drop a = pieceS k t ++ s.drop e := by
    rw [← h3, List.drop_take]
    have := (List.take_append_drop (e - a) (s.drop a)).symm
    rw [List.drop_drop, show a + (e - a) = e by omega] at this
    exact this
  have hlen : (pieceS k t).length = e - a := by omega
  cases hn : nextS (s.drop a) 0 with
  | bad m => rw [hn] at hsh; cases hsh
  | good k' a' t' e' =>
    rw [hn] at hsh
    simp only [Pc.shift] at hsh
    injection hsh with g1 g2 g3 g4
    subst g1 g3
    rw [e2] at hn
    have ha : a' = 0 := by omega
    have he : e' = (pieceS k t).length := by omega
    subst ha he
    have hc := nextS_cut (by omega) hn
    have hb2 : isBlank ((pieceS k t).getD 0 0) = false := by
      have : (s.drop a).getD 0 0 = s.getD a 0 := by simp [List.getD_eq_getElem?_getD]
      rw [e2, getD_app _ _ 0 (by omega)] at this
      rw [this]; exact hb
    rw [scan_good _ 0 (by omega) hb2 hc, scan_end _ _ (Nat.le_refl _)]
    rfl

def Tok.z (t : Tok) : ZTok := ⟨t.kind, t.at_, t.text⟩
theorem rowsT_z (l : List Tok) : rowsT l = rowsZ (l.map Tok.z) := by simp only [rowsT, rowsZ, List.map_map]; rfl
def toks (l : List Tok) : List ZTok := l.map Tok.z

theorem scan_alone (s : List UInt8) : ∀ (n i : Nat) (l : List Tok), s.length - i ≤ n → scanAt s i = .good l → ∀ x ∈ l, scanAt (pieceS x.kind x.text) 0 = .good [⟨x.kind, 0, x.text⟩] := by
  intro n
  induction n with
  | zero => intro i l hn h; rw [scan_end s i (by omega)] at h; cases h; intro x hx; cases hx
  | succ n ih =>
    intro i l hn h
    by_cases hi : i < s.length
    · cases hb : isBlank (s.getD i 0) with
      | true =>
        rw [scan_blank s i hi hb] at h
        exact ih (i + 1) l (by omega) h
      | false =>
        cases hx : nextS s i with
        | bad m => rw [scan_bad s i m hi hb hx] at h; cases h
        | good k a t e =>
          obtain ⟨e1, e2, _⟩ := nextS_end hi hx
          rw [scan_good s i hi hb hx] at h
          cases hr : scanAt s e with
          | bad m => rw [hr] at h; cases h
          | good l' =>
            rw [hr] at h
            simp only [Lx.pre] at h
            cases h
            intro x hx2
            rcases List.mem_append.1 hx2 with hx2 | hx2
            · simp at hx2; subst hx2; exact nextS_alone hi hb hx
            · exact ih e l' (by omega) hr x hx2
    · rw [scan_end s i (by omega)] at h; cases h; intro x hx; cases hx

/-- What is formatted scans to the same kinds and texts. -/
theorem scan_format : ∀ l : List Tok, (∀ x ∈ l, scanAt (pieceS x.kind x.text) 0 = .good [⟨x.kind, 0, x.text⟩]) → ∃ m, scanAt (Lib.join (pieces (toks l)) [32]) 0 = .good m ∧ m.map Tok.kt = l.map Tok.kt
  | [], _ => ⟨[], by rw [show Lib.join (pieces (toks [])) [32] = [] from rfl, scan_end [] 0 (by simp)], rfl⟩
  | [x], h => ⟨[⟨x.kind, 0, x.text⟩], by
      have := h x (List.mem_cons_self ..)
      rw [show pieces (toks [x]) = [pieceS x.kind x.text] from rfl, Lib.join_one]
      exact this, rfl⟩
  | x :: y :: r, h => by
    obtain ⟨m, h1, h2⟩ := scan_format (y :: r) (fun z hz => h z (List.mem_cons_of_mem _ hz))
    have h3 := h x (List.mem_cons_self ..)
    have e : Lib.join (pieces (toks (x :: y :: r))) [32] = pieceS x.kind x.text ++ [32] ++ Lib.join (pieces (toks (y :: r))) [32] := by
      show Lib.join (pieceS x.kind x.text :: (pieceS y.kind y.text :: pieces (toks r))) [32] = _ ++ Lib.join (pieceS y.kind y.text :: pieces (toks r)) [32]
      rw [Lib.join_cons, Lib.join_cons]
      simp [Lib.joinTail]
    have hj := scan_join _ [32] _ (by intro c hc; simp at hc; subst hc; rfl) (by simp) _ _ h3 h1
    rw [e, hj]
    refine ⟨_, rfl, ?_⟩
    rw [List.map_append, List.map_map, List.map_cons]
    have : m.map (Tok.kt ∘ Tok.shift ((pieceS x.kind x.text).length + [(32 : UInt8)].length)) = m.map Tok.kt := List.map_congr_left fun z _ => rfl
    rw [this, h2]
    rfl

theorem chain_lens (s : List UInt8) : ∀ (l : List Tok) (i : Nat), i ≤ s.length → Chain s i l → i + Lib.lens (pieces (toks l)) ≤ s.length
  | [], i, hi, _ => by simp [toks, pieces, Lib.lens]; exact hi
  | x :: l, i, hi, h => by
    obtain ⟨c1, c2, c3, c4, c5⟩ := h
    have := chain_lens s l _ c3 c5
    have e : Lib.lens (pieces (toks (x :: l))) = (pieceS x.kind x.text).length + Lib.lens (pieces (toks l)) := by simp [pieces, toks, Lib.lens, ZTok.piece, Tok.z]
    rw [e]
    omega
theorem piece_ge (k : Int) (t : List UInt8) : t.length ≤ (pieceS k t).length := by
  unfold pieceS
  split
  · rw [quoteS_len, escS_len]; omega
  · exact Nat.le_refl _
theorem lens_mem : ∀ (xs : List (List UInt8)), ∀ x ∈ xs, x.length ≤ Lib.lens xs
  | [], x, hx => by cases hx
  | y :: xs, x, hx => by
    have e : Lib.lens (y :: xs) = y.length + Lib.lens xs := by simp [Lib.lens]
    rw [e]
    rcases List.mem_cons.1 hx with rfl | hx
    · omega
    · have := lens_mem xs x hx; omega

theorem kt_pieces {l m : List Tok} (h : m.map Tok.kt = l.map Tok.kt) : pieces (toks m) = pieces (toks l) := by
  have e : ∀ q : List Tok, pieces (toks q) = (q.map Tok.kt).map fun p => pieceS p.1 p.2 := fun q => by simp [pieces, toks]; exact fun a _ => rfl
  rw [e, e, h]
theorem kt_alone {l m : List Tok} (h : m.map Tok.kt = l.map Tok.kt) : (toks m).all ZTok.alone = (toks l).all ZTok.alone := by
  have e : ∀ q : List Tok, (toks q).all ZTok.alone = (q.map Tok.kt).all fun p => aloneB p.1 p.2 := fun q => by simp only [toks, List.all_map]; rfl
  rw [e, e, h]
theorem kt_format {l m : List Tok} (h : m.map Tok.kt = l.map Tok.kt) : formatS (toks m) = formatS (toks l) := by
  unfold formatS
  rw [kt_alone h, kt_pieces h]
theorem all_alone {l : List Tok} (h : ∀ x ∈ l, scanAt (pieceS x.kind x.text) 0 = .good [⟨x.kind, 0, x.text⟩]) : formatS (toks l) = Lib.join (pieces (toks l)) [32] := by
  unfold formatS
  rw [if_pos]
  rw [List.all_eq_true]
  intro z hz
  obtain ⟨x, hx, rfl⟩ := List.mem_map.1 hz
  show aloneB x.kind x.text = true
  unfold aloneB
  rw [h x hx]
  simp
end Go.Av

/-
  THE LEXER, 29: TokenRoundTrip.
-/
namespace Go.Av
open Go Go.RowKit Go.Proofs
set_option linter.unusedSimpArgs false
set_option linter.unusedVariables false

section
variable (G : Glob)

/-- TokenRoundTrip answers true. -/
theorem f9 (s : List UInt8) : Pure G Tryz.prog 9 [.str s] (.bool true) := by
  refine Pure.w c9 fun R hR => ?_
  have hyes : ∀ σ, RET (.bool true) σ R := fun σ => RET.eq hR rfl
  clear hR
  unfold s9 r9
  (try simp -dsimp -implicitDefEqProofs only [EV1, EV2, EV3, EV4, Nat.reduceEqDiff, ↓reduceIte, List.contains_cons, List.contains_nil, Nat.reduceBEq, Bool.or_false, Bool.false_or, Bool.or_true, Bool.true_or, Bool.not_true, Bool.not_false, reduceCtorEq, List.map_cons, List.map_nil, BEq.rfl, retQ_ret, retQ_normal, RX_nil, RX_tmp, RX_cell, one_nil, one_one, one_two, argEnv_nil, argEnv_cons, Nat.reduceAdd, List.length_cons, List.length_nil, List.cons_append, List.nil_append, List.drop_succ_cons, List.drop_zero, List.drop_nil, List.take_succ_cons, List.take_zero, List.headD_cons, Nat.reduceLeDiff, true_and, and_true, eq_self, Nat.le_refl, Nat.reduceLT, List.getD_cons_zero, List.getD_cons_succ, Int.reduceToNat, UInt8.reduceToNat, Nat.reduceMul, Nat.reduceAdd, Nat.reduceSub, Int.reduceLT, Int.reduceLE, Int.reduceAdd, Int.reduceSub, Int.reduceMul, Int.reduceEq, Int.reduceNe, Int.reduceNeg, Int.reduceTDiv, Int.reduceTMod, decide_true, decide_false, Nat.zero_add, Nat.mul_one, Int.cast_ofNat_Int, Int.toNat_zero, Bool.true_eq_false, Bool.false_eq_true, not_true_eq_false, not_false_eq_true, wrap_i64, ne_eq, Option.map_some, Bool.true_and, Bool.and_true, Bool.false_and, Bool.and_false])
  refine split_case (fun h => ?_) (fun h => ?_)
  · (try simp -dsimp -implicitDefEqProofs only [EV1, EV2, EV3, EV4, Nat.reduceEqDiff, ↓reduceIte, List.contains_cons, List.contains_nil, Nat.reduceBEq, Bool.or_false, Bool.false_or, Bool.or_true, Bool.true_or, Bool.not_true, Bool.not_false, reduceCtorEq, List.map_cons, List.map_nil, BEq.rfl, retQ_ret, retQ_normal, RX_nil, RX_tmp, RX_cell, one_nil, one_one, one_two, argEnv_nil, argEnv_cons, Nat.reduceAdd, List.length_cons, List.length_nil, List.cons_append, List.nil_append, List.drop_succ_cons, List.drop_zero, List.drop_nil, List.take_succ_cons, List.take_zero, List.headD_cons, Nat.reduceLeDiff, true_and, and_true, eq_self, Nat.le_refl, Nat.reduceLT, List.getD_cons_zero, List.getD_cons_succ, Int.reduceToNat, UInt8.reduceToNat, Nat.reduceMul, Nat.reduceAdd, Nat.reduceSub, Int.reduceLT, Int.reduceLE, Int.reduceAdd, Int.reduceSub, Int.reduceMul, Int.reduceEq, Int.reduceNe, Int.reduceNeg, Int.reduceTDiv, Int.reduceTMod, decide_true, decide_false, Nat.zero_add, Nat.mul_one, Int.cast_ofNat_Int, Int.toNat_zero, Bool.true_eq_false, Bool.false_eq_true, not_true_eq_false, not_false_eq_true, wrap_i64, ne_eq, Option.map_some, Bool.true_and, Bool.and_true, Bool.false_and, Bool.and_false])
    refine CALL_pure (f10 G) ?_
    (try simp -dsimp -implicitDefEqProofs only [EV1, EV2, EV3, EV4, Nat.reduceEqDiff, ↓reduceIte, List.contains_cons, List.contains_nil, Nat.reduceBEq, Bool.or_false, Bool.false_or, Bool.or_true, Bool.true_or, Bool.not_true, Bool.not_false, reduceCtorEq, List.map_cons, List.map_nil, BEq.rfl, retQ_ret, retQ_normal, RX_nil, RX_tmp, RX_cell, one_nil, one_one, one_two, argEnv_nil, argEnv_cons, Nat.reduceAdd, List.length_cons, List.length_nil, List.cons_append, List.nil_append, List.drop_succ_cons, List.drop_zero, List.drop_nil, List.take_succ_cons, List.take_zero, List.headD_cons, Nat.reduceLeDiff, true_and, and_true, eq_self, Nat.le_refl, Nat.reduceLT, List.getD_cons_zero, List.getD_cons_succ, Int.reduceToNat, UInt8.reduceToNat, Nat.reduceMul, Nat.reduceAdd, Nat.reduceSub, Int.reduceLT, Int.reduceLE, Int.reduceAdd, Int.reduceSub, Int.reduceMul, Int.reduceEq, Int.reduceNe, Int.reduceNeg, Int.reduceTDiv, Int.reduceTMod, decide_true, decide_false, Nat.zero_add, Nat.mul_one, Int.cast_ofNat_Int, Int.toNat_zero, Bool.true_eq_false, Bool.false_eq_true, not_true_eq_false, not_false_eq_true, wrap_i64, ne_eq, Option.map_some, Bool.true_and, Bool.and_true, Bool.false_and, Bool.and_false])
    exact hyes _
  · have h1 := of_decide_eq_false h
    have h11 := f11 G s (by omega)
    (try simp -dsimp -implicitDefEqProofs only [EV1, EV2, EV3, EV4, Nat.reduceEqDiff, ↓reduceIte, List.contains_cons, List.contains_nil, Nat.reduceBEq, Bool.or_false, Bool.false_or, Bool.or_true, Bool.true_or, Bool.not_true, Bool.not_false, reduceCtorEq, List.map_cons, List.map_nil, BEq.rfl, retQ_ret, retQ_normal, RX_nil, RX_tmp, RX_cell, one_nil, one_one, one_two, argEnv_nil, argEnv_cons, Nat.reduceAdd, List.length_cons, List.length_nil, List.cons_append, List.nil_append, List.drop_succ_cons, List.drop_zero, List.drop_nil, List.take_succ_cons, List.take_zero, List.headD_cons, Nat.reduceLeDiff, true_and, and_true, eq_self, Nat.le_refl, Nat.reduceLT, List.getD_cons_zero, List.getD_cons_succ, Int.reduceToNat, UInt8.reduceToNat, Nat.reduceMul, Nat.reduceAdd, Nat.reduceSub, Int.reduceLT, Int.reduceLE, Int.reduceAdd, Int.reduceSub, Int.reduceMul, Int.reduceEq, Int.reduceNe, Int.reduceNeg, Int.reduceTDiv, Int.reduceTMod, decide_true, decide_false, Nat.zero_add, Nat.mul_one, Int.cast_ofNat_Int, Int.toNat_zero, Bool.true_eq_false, Bool.false_eq_true, not_true_eq_false, not_false_eq_true, wrap_i64, ne_eq, Option.map_some, Bool.true_and, Bool.and_true, Bool.false_and, Bool.and_false])
    cases hq : scanAt s 0 with
    | bad n =>
      have hn := scan_bad_le s _ 0 n (Nat.le_refl _) hq
      rw [hq] at h11
      simp only [Lx.av] at h11
      have d1 : decide ((0 : Int) ≤ (n : Int)) = true := decide_eq_true (by omega)
      have d2 : decide ((n : Int) ≤ (s.length : Int)) = true := decide_eq_true (by omega)
      refine CALL_pure h11 ?_
      (try simp -dsimp -implicitDefEqProofs only [EV1, EV2, EV3, EV4, Nat.reduceEqDiff, ↓reduceIte, List.contains_cons, List.contains_nil, Nat.reduceBEq, Bool.or_false, Bool.false_or, Bool.or_true, Bool.true_or, Bool.not_true, Bool.not_false, reduceCtorEq, List.map_cons, List.map_nil, BEq.rfl, retQ_ret, retQ_normal, RX_nil, RX_tmp, RX_cell, one_nil, one_one, one_two, argEnv_nil, argEnv_cons, Nat.reduceAdd, List.length_cons, List.length_nil, List.cons_append, List.nil_append, List.drop_succ_cons, List.drop_zero, List.drop_nil, List.take_succ_cons, List.take_zero, List.headD_cons, Nat.reduceLeDiff, true_and, and_true, eq_self, Nat.le_refl, Nat.reduceLT, List.getD_cons_zero, List.getD_cons_succ, Int.reduceToNat, UInt8.reduceToNat, Nat.reduceMul, Nat.reduceAdd, Nat.reduceSub, Int.reduceLT, Int.reduceLE, Int.reduceAdd, Int.reduceSub, Int.reduceMul, Int.reduceEq, Int.reduceNe, Int.reduceNeg, Int.reduceTDiv, Int.reduceTMod, decide_true, decide_false, Nat.zero_add, Nat.mul_one, Int.cast_ofNat_Int, Int.toNat_zero, Bool.true_eq_false, Bool.false_eq_true, not_true_eq_false, not_false_eq_true, wrap_i64, ne_eq, Option.map_some, Bool.true_and, Bool.and_true, Bool.false_and, Bool.and_false, d1, d2])
      refine CALL_pure (f10 G) ?_
      (try simp -dsimp -implicitDefEqProofs only [EV1, EV2, EV3, EV4, Nat.reduceEqDiff, ↓reduceIte, List.contains_cons, List.contains_nil, Nat.reduceBEq, Bool.or_false, Bool.false_or, Bool.or_true, Bool.true_or, Bool.not_true, Bool.not_false, reduceCtorEq, List.map_cons, List.map_nil, BEq.rfl, retQ_ret, retQ_normal, RX_nil, RX_tmp, RX_cell, one_nil, one_one, one_two, argEnv_nil, argEnv_cons, Nat.reduceAdd, List.length_cons, List.length_nil, List.cons_append, List.nil_append, List.drop_succ_cons, List.drop_zero, List.drop_nil, List.take_succ_cons, List.take_zero, List.headD_cons, Nat.reduceLeDiff, true_and, and_true, eq_self, Nat.le_refl, Nat.reduceLT, List.getD_cons_zero, List.getD_cons_succ, Int.reduceToNat, UInt8.reduceToNat, Nat.reduceMul, Nat.reduceAdd, Nat.reduceSub, Int.reduceLT, Int.reduceLE, Int.reduceAdd, Int.reduceSub, Int.reduceMul, Int.reduceEq, Int.reduceNe, Int.reduceNeg, Int.reduceTDiv, Int.reduceTMod, decide_true, decide_false, Nat.zero_add, Nat.mul_one, Int.cast_ofNat_Int, Int.toNat_zero, Bool.true_eq_false, Bool.false_eq_true, not_true_eq_false, not_false_eq_true, wrap_i64, ne_eq, Option.map_some, Bool.true_and, Bool.and_true, Bool.false_and, Bool.and_false])
      exact hyes _
    | good l =>
      have hC := scan_chain s _ 0 l (Nat.le_refl _) hq
      have hL := scanAt_len s _ 0 l (Nat.le_refl _) hq
      have hA := scan_alone s _ 0 l (Nat.le_refl _) hq
      obtain ⟨m, hm, hkt⟩ := scan_format l hA
      have hlens := chain_lens s l 0 (Nat.zero_le _) hC
      have hml : m.length = l.length := by simpa using congrArg List.length hkt
      have hpl : (pieces (toks l)).length = l.length := by simp [pieces, toks]
      have hjl := join_len (pieces (toks l))
      have tt : ∀ q : List Tok, pieces (toks q) = pieces (toks l) → ∀ z ∈ toks q, z.text.length < 400000 := fun q hq2 z hz => by
        have h1 : z.piece ∈ pieces (toks q) := List.mem_map.2 ⟨z, hz, rfl⟩
        rw [hq2] at h1
        have h2 := lens_mem _ _ h1
        have h3 := piece_ge z.kind z.text
        unfold ZTok.piece at h2
        omega
      have hfl := all_alone hA
      have hfm := kt_format hkt
      have h23 := f23 G (toks l) (by simp [toks]; omega) (tt l rfl) (by omega)
      have h23m := f23 G (toks m) (by simp [toks]; omega) (tt m (kt_pieces hkt)) (by rw [kt_pieces hkt]; omega)
      rw [hfm, hfl] at h23m
      rw [hfl] at h23
      have h14 := f14 G l m (by omega)
      rw [decide_eq_true hkt.symm] at h14
      rw [rowsT_z, rowsT_z] at h14
      have h11t := f11 G (Lib.join (pieces (toks l)) [32]) (by omega)
      rw [hm] at h11t
      rw [hq] at h11
      simp only [Lx.av, rowsT_z] at h11 h11t
      refine CALL_pure h11 ?_
      (try simp -dsimp -implicitDefEqProofs only [EV1, EV2, EV3, EV4, Nat.reduceEqDiff, ↓reduceIte, List.contains_cons, List.contains_nil, Nat.reduceBEq, Bool.or_false, Bool.false_or, Bool.or_true, Bool.true_or, Bool.not_true, Bool.not_false, reduceCtorEq, List.map_cons, List.map_nil, BEq.rfl, retQ_ret, retQ_normal, RX_nil, RX_tmp, RX_cell, one_nil, one_one, one_two, argEnv_nil, argEnv_cons, Nat.reduceAdd, List.length_cons, List.length_nil, List.cons_append, List.nil_append, List.drop_succ_cons, List.drop_zero, List.drop_nil, List.take_succ_cons, List.take_zero, List.headD_cons, Nat.reduceLeDiff, true_and, and_true, eq_self, Nat.le_refl, Nat.reduceLT, List.getD_cons_zero, List.getD_cons_succ, Int.reduceToNat, UInt8.reduceToNat, Nat.reduceMul, Nat.reduceAdd, Nat.reduceSub, Int.reduceLT, Int.reduceLE, Int.reduceAdd, Int.reduceSub, Int.reduceMul, Int.reduceEq, Int.reduceNe, Int.reduceNeg, Int.reduceTDiv, Int.reduceTMod, decide_true, decide_false, Nat.zero_add, Nat.mul_one, Int.cast_ofNat_Int, Int.toNat_zero, Bool.true_eq_false, Bool.false_eq_true, not_true_eq_false, not_false_eq_true, wrap_i64, ne_eq, Option.map_some, Bool.true_and, Bool.and_true, Bool.false_and, Bool.and_false])
      refine CALL_pure h23 ?_
      (try simp -dsimp -implicitDefEqProofs only [EV1, EV2, EV3, EV4, Nat.reduceEqDiff, ↓reduceIte, List.contains_cons, List.contains_nil, Nat.reduceBEq, Bool.or_false, Bool.false_or, Bool.or_true, Bool.true_or, Bool.not_true, Bool.not_false, reduceCtorEq, List.map_cons, List.map_nil, BEq.rfl, retQ_ret, retQ_normal, RX_nil, RX_tmp, RX_cell, one_nil, one_one, one_two, argEnv_nil, argEnv_cons, Nat.reduceAdd, List.length_cons, List.length_nil, List.cons_append, List.nil_append, List.drop_succ_cons, List.drop_zero, List.drop_nil, List.take_succ_cons, List.take_zero, List.headD_cons, Nat.reduceLeDiff, true_and, and_true, eq_self, Nat.le_refl, Nat.reduceLT, List.getD_cons_zero, List.getD_cons_succ, Int.reduceToNat, UInt8.reduceToNat, Nat.reduceMul, Nat.reduceAdd, Nat.reduceSub, Int.reduceLT, Int.reduceLE, Int.reduceAdd, Int.reduceSub, Int.reduceMul, Int.reduceEq, Int.reduceNe, Int.reduceNeg, Int.reduceTDiv, Int.reduceTMod, decide_true, decide_false, Nat.zero_add, Nat.mul_one, Int.cast_ofNat_Int, Int.toNat_zero, Bool.true_eq_false, Bool.false_eq_true, not_true_eq_false, not_false_eq_true, wrap_i64, ne_eq, Option.map_some, Bool.true_and, Bool.and_true, Bool.false_and, Bool.and_false])
      refine CALL_pure h11t ?_
      (try simp -dsimp -implicitDefEqProofs only [EV1, EV2, EV3, EV4, Nat.reduceEqDiff, ↓reduceIte, List.contains_cons, List.contains_nil, Nat.reduceBEq, Bool.or_false, Bool.false_or, Bool.or_true, Bool.true_or, Bool.not_true, Bool.not_false, reduceCtorEq, List.map_cons, List.map_nil, BEq.rfl, retQ_ret, retQ_normal, RX_nil, RX_tmp, RX_cell, one_nil, one_one, one_two, argEnv_nil, argEnv_cons, Nat.reduceAdd, List.length_cons, List.length_nil, List.cons_append, List.nil_append, List.drop_succ_cons, List.drop_zero, List.drop_nil, List.take_succ_cons, List.take_zero, List.headD_cons, Nat.reduceLeDiff, true_and, and_true, eq_self, Nat.le_refl, Nat.reduceLT, List.getD_cons_zero, List.getD_cons_succ, Int.reduceToNat, UInt8.reduceToNat, Nat.reduceMul, Nat.reduceAdd, Nat.reduceSub, Int.reduceLT, Int.reduceLE, Int.reduceAdd, Int.reduceSub, Int.reduceMul, Int.reduceEq, Int.reduceNe, Int.reduceNeg, Int.reduceTDiv, Int.reduceTMod, decide_true, decide_false, Nat.zero_add, Nat.mul_one, Int.cast_ofNat_Int, Int.toNat_zero, Bool.true_eq_false, Bool.false_eq_true, not_true_eq_false, not_false_eq_true, wrap_i64, ne_eq, Option.map_some, Bool.true_and, Bool.and_true, Bool.false_and, Bool.and_false])
      refine CALL_pure h14 ?_
      (try simp -dsimp -implicitDefEqProofs only [EV1, EV2, EV3, EV4, Nat.reduceEqDiff, ↓reduceIte, List.contains_cons, List.contains_nil, Nat.reduceBEq, Bool.or_false, Bool.false_or, Bool.or_true, Bool.true_or, Bool.not_true, Bool.not_false, reduceCtorEq, List.map_cons, List.map_nil, BEq.rfl, retQ_ret, retQ_normal, RX_nil, RX_tmp, RX_cell, one_nil, one_one, one_two, argEnv_nil, argEnv_cons, Nat.reduceAdd, List.length_cons, List.length_nil, List.cons_append, List.nil_append, List.drop_succ_cons, List.drop_zero, List.drop_nil, List.take_succ_cons, List.take_zero, List.headD_cons, Nat.reduceLeDiff, true_and, and_true, eq_self, Nat.le_refl, Nat.reduceLT, List.getD_cons_zero, List.getD_cons_succ, Int.reduceToNat, UInt8.reduceToNat, Nat.reduceMul, Nat.reduceAdd, Nat.reduceSub, Int.reduceLT, Int.reduceLE, Int.reduceAdd, Int.reduceSub, Int.reduceMul, Int.reduceEq, Int.reduceNe, Int.reduceNeg, Int.reduceTDiv, Int.reduceTMod, decide_true, decide_false, Nat.zero_add, Nat.mul_one, Int.cast_ofNat_Int, Int.toNat_zero, Bool.true_eq_false, Bool.false_eq_true, not_true_eq_false, not_false_eq_true, wrap_i64, ne_eq, Option.map_some, Bool.true_and, Bool.and_true, Bool.false_and, Bool.and_false])
      refine CALL_pure h23m ?_
      (try simp -dsimp -implicitDefEqProofs only [EV1, EV2, EV3, EV4, Nat.reduceEqDiff, ↓reduceIte, List.contains_cons, List.contains_nil, Nat.reduceBEq, Bool.or_false, Bool.false_or, Bool.or_true, Bool.true_or, Bool.not_true, Bool.not_false, reduceCtorEq, List.map_cons, List.map_nil, BEq.rfl, retQ_ret, retQ_normal, RX_nil, RX_tmp, RX_cell, one_nil, one_one, one_two, argEnv_nil, argEnv_cons, Nat.reduceAdd, List.length_cons, List.length_nil, List.cons_append, List.nil_append, List.drop_succ_cons, List.drop_zero, List.drop_nil, List.take_succ_cons, List.take_zero, List.headD_cons, Nat.reduceLeDiff, true_and, and_true, eq_self, Nat.le_refl, Nat.reduceLT, List.getD_cons_zero, List.getD_cons_succ, Int.reduceToNat, UInt8.reduceToNat, Nat.reduceMul, Nat.reduceAdd, Nat.reduceSub, Int.reduceLT, Int.reduceLE, Int.reduceAdd, Int.reduceSub, Int.reduceMul, Int.reduceEq, Int.reduceNe, Int.reduceNeg, Int.reduceTDiv, Int.reduceTMod, decide_true, decide_false, Nat.zero_add, Nat.mul_one, Int.cast_ofNat_Int, Int.toNat_zero, Bool.true_eq_false, Bool.false_eq_true, not_true_eq_false, not_false_eq_true, wrap_i64, ne_eq, Option.map_some, Bool.true_and, Bool.and_true, Bool.false_and, Bool.and_false])
      refine CALL_pure (f10 G) ?_
      (try simp -dsimp -implicitDefEqProofs only [EV1, EV2, EV3, EV4, Nat.reduceEqDiff, ↓reduceIte, List.contains_cons, List.contains_nil, Nat.reduceBEq, Bool.or_false, Bool.false_or, Bool.or_true, Bool.true_or, Bool.not_true, Bool.not_false, reduceCtorEq, List.map_cons, List.map_nil, BEq.rfl, retQ_ret, retQ_normal, RX_nil, RX_tmp, RX_cell, one_nil, one_one, one_two, argEnv_nil, argEnv_cons, Nat.reduceAdd, List.length_cons, List.length_nil, List.cons_append, List.nil_append, List.drop_succ_cons, List.drop_zero, List.drop_nil, List.take_succ_cons, List.take_zero, List.headD_cons, Nat.reduceLeDiff, true_and, and_true, eq_self, Nat.le_refl, Nat.reduceLT, List.getD_cons_zero, List.getD_cons_succ, Int.reduceToNat, UInt8.reduceToNat, Nat.reduceMul, Nat.reduceAdd, Nat.reduceSub, Int.reduceLT, Int.reduceLE, Int.reduceAdd, Int.reduceSub, Int.reduceMul, Int.reduceEq, Int.reduceNe, Int.reduceNeg, Int.reduceTDiv, Int.reduceTMod, decide_true, decide_false, Nat.zero_add, Nat.mul_one, Int.cast_ofNat_Int, Int.toNat_zero, Bool.true_eq_false, Bool.false_eq_true, not_true_eq_false, not_false_eq_true, wrap_i64, ne_eq, Option.map_some, Bool.true_and, Bool.and_true, Bool.false_and, Bool.and_false])
      exact hyes _
end
end Go.Av
