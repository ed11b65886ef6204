/-
  THE LEXER, 5: quoted strings.
-/
import Derived.Test.YtmghejoigggooaaGreatDoorXTok4
namespace Go.Av
open Go Go.RowKit Go.Proofs
set_option linter.unusedSimpArgs false

/-- The text of a quoted string and the number of bytes that it takes, its closing mark with it; of the bytes behind its opening mark. -/
def unq : List UInt8 → Option (List UInt8 × Nat)
  | [] => none
  | c :: l => if c.toNat = 34 then some ([], 1) else
    if c.toNat = 92 then match l with
      | [] => none
      | d :: l' => if d.toNat = 34 ∨ d.toNat = 92 then (unq l').map fun p => (d :: p.1, p.2 + 2) else none
    else (unq l).map fun p => (c :: p.1, p.2 + 1)

def more (t : List UInt8) (n : Nat) (x : Option (List UInt8 × Nat)) : Option (List UInt8 × Nat) := x.map fun p => (t ++ p.1, p.2 + n)

theorem drop_get (s : List UInt8) (i : Nat) (h : i < s.length) : s.drop i = s.getD i 0 :: s.drop (i + 1) := by
  rw [List.drop_eq_getElem_cons h]; simp [h]

theorem unq_end (s : List UInt8) (i : Nat) (h : s.length ≤ i) : unq (s.drop i) = none := by
  rw [List.drop_eq_nil_of_le h]; rfl
theorem unq_mark (s : List UInt8) (i : Nat) (h : i < s.length) (hc : (s.getD i 0).toNat = 34) : unq (s.drop i) = some ([], 1) := by
  rw [drop_get s i h, unq.eq_def]; simp only [if_pos hc]
theorem unq_esc_end (s : List UInt8) (i : Nat) (h : i < s.length) (hc : (s.getD i 0).toNat = 92) (h2 : s.length ≤ i + 1) : unq (s.drop i) = none := by
  rw [drop_get s i h, unq.eq_def, List.drop_eq_nil_of_le h2]; simp only [if_neg (show ¬ (s.getD i 0).toNat = 34 by omega), if_pos hc]
theorem unq_esc_bad (s : List UInt8) (i : Nat) (h : i + 1 < s.length) (hc : (s.getD i 0).toNat = 92) (h2 : ¬ ((s.getD (i + 1) 0).toNat = 34 ∨ (s.getD (i + 1) 0).toNat = 92)) : unq (s.drop i) = none := by
  rw [drop_get s i (by omega), unq.eq_def, drop_get s (i + 1) h]; simp only [if_neg (show ¬ (s.getD i 0).toNat = 34 by omega), if_pos hc, if_neg h2]
theorem unq_esc (s : List UInt8) (i : Nat) (h : i + 1 < s.length) (hc : (s.getD i 0).toNat = 92) (h2 : (s.getD (i + 1) 0).toNat = 34 ∨ (s.getD (i + 1) 0).toNat = 92) :
    unq (s.drop i) = more [s.getD (i + 1) 0] 2 (unq (s.drop (i + 2))) := by
  rw [drop_get s i (by omega), unq.eq_def, drop_get s (i + 1) h]; simp only [if_neg (show ¬ (s.getD i 0).toNat = 34 by omega), if_pos hc, if_pos h2, more, List.cons_append, List.nil_append]
theorem unq_plain (s : List UInt8) (i : Nat) (h : i < s.length) (h1 : ¬ (s.getD i 0).toNat = 34) (h2 : ¬ (s.getD i 0).toNat = 92) : unq (s.drop i) = more [s.getD i 0] 1 (unq (s.drop (i + 1))) := by
  rw [drop_get s i h, unq.eq_def]; simp only [if_neg h1, if_neg h2, more, List.cons_append, List.nil_append]
theorem more_more (t u : List UInt8) (n m : Nat) (x : Option (List UInt8 × Nat)) : more t n (more u m x) = more (t ++ u) (m + n) x := by
  cases x with
  | none => rfl
  | some p => simp only [more, Option.map_some, List.append_assoc, Nat.add_assoc]
theorem more_nil (x : Option (List UInt8 × Nat)) : more [] 0 x = x := by
  cases x with
  | none => rfl
  | some p => simp only [more, Option.map_some, List.nil_append, Nat.add_zero]

theorem one_byte (s : List UInt8) (i : Nat) (h : i < s.length) : (s.take (i + 1)).drop i = [s.getD i 0] := by
  rw [List.take_add_one, List.drop_append, List.drop_eq_nil_of_le (by simp; omega)]
  simp [h, Nat.min_eq_left (Nat.le_of_lt h)]

section
variable (G : Glob)

def refQuoted (s : List UInt8) (a : Nat) : AV :=
  match unq (s.drop (a + 1)) with
  | none => .tup [.str [], .int .i64 (-1)]
  | some p => .tup [.str p.1, .int .i64 (p.2 + a + 1 : Nat)]

theorem f29 (s : List UInt8) (a : Nat) (hs : s.length < 1000000) (ha : a < s.length) : Pure G Tryz.prog 29 [.str s, .int .i64 a] (refQuoted s a) := by
  refine Pure.w c29 fun R hR => ?_
  have hnone : unq (s.drop (a + 1)) = none → ∀ σ, RET (.tup [.str [], .int .i64 (-1)]) σ R := fun h σ => RET.eq hR (by rw [refQuoted, h])
  have hsome : ∀ t n, unq (s.drop (a + 1)) = some (t, n) → ∀ σ, RET (.tup [.str t, .int .i64 (n + a + 1 : Nat)]) σ R := fun t n h σ => RET.eq hR (by rw [refQuoted, h])
  clear hR
  unfold s29 r29
  simp -dsimp -implicitDefEqProofs only [EV1, EV2, EV3, EV4, Nat.reduceEqDiff, ↓reduceIte, List.contains_cons, List.contains_nil, Nat.reduceBEq, Bool.or_false, Bool.false_or, Bool.or_true, Bool.true_or, Bool.not_true, Bool.not_false, reduceCtorEq, List.map_cons, List.map_nil, BEq.rfl, retQ_ret, retQ_normal, RX_nil, RX_tmp, RX_cell, one_nil, one_one, one_two, argEnv_nil, argEnv_cons, Nat.reduceAdd, List.length_cons, List.length_nil, List.cons_append, List.nil_append, List.drop_succ_cons, List.drop_zero, List.drop_nil, List.take_succ_cons, List.take_zero, List.headD_cons, Nat.reduceLeDiff, true_and, and_true, eq_self, Nat.le_refl, Nat.reduceLT, List.getD_cons_zero, List.getD_cons_succ]
  rw [wrap_i64 (by omega) (by omega)]
  refine W_loop (ι := Nat × List UInt8) (fun p => a + 1 ≤ p.1 ∧ p.1 ≤ s.length ∧ p.2.length ≤ p.1 ∧ unq (s.drop (a + 1)) = more p.2 (p.1 - (a + 1)) (unq (s.drop p.1))) (fun p => s.length - p.1)
    (fun p => [(0, .str s), (6, .str p.2), (7, .int .i64 p.1)]) (fun _ => []) (a + 1, []) ⟨by omega, by omega, by simp, by rw [Nat.sub_self, more_nil]⟩ (Weak.rfl' _ _) ?_
  rintro ⟨i, t⟩ ⟨hi0, hi, ht, he⟩
  simp only at hi0 hi ht he
  (try simp -dsimp -implicitDefEqProofs only [EV1, EV2, EV3, EV4, Nat.reduceEqDiff, ↓reduceIte, List.contains_cons, List.contains_nil, Nat.reduceBEq, Bool.or_false, Bool.false_or, Bool.or_true, Bool.true_or, Bool.not_true, Bool.not_false, reduceCtorEq, List.map_cons, List.map_nil, BEq.rfl, retQ_ret, retQ_normal, RX_nil, RX_tmp, RX_cell, one_nil, one_one, one_two, argEnv_nil, argEnv_cons, Nat.reduceAdd, List.length_cons, List.length_nil, List.cons_append, List.nil_append, List.drop_succ_cons, List.drop_zero, List.drop_nil, List.take_succ_cons, List.take_zero, List.headD_cons, Nat.reduceLeDiff, true_and, and_true, eq_self, Nat.le_refl, Nat.reduceLT, List.getD_cons_zero, List.getD_cons_succ])
  refine split_case (fun h => ?_) (fun h => ?_)
  · have h := of_decide_eq_true h
    have hw : IntKind.i64.wrap ((i : Int) + 1) = (i : Int) + 1 := wrap_i64 (by omega) (by omega)
    (try simp -dsimp -implicitDefEqProofs only [EV1, EV2, EV3, EV4, Nat.reduceEqDiff, ↓reduceIte, List.contains_cons, List.contains_nil, Nat.reduceBEq, Bool.or_false, Bool.false_or, Bool.or_true, Bool.true_or, Bool.not_true, Bool.not_false, reduceCtorEq, List.map_cons, List.map_nil, BEq.rfl, retQ_ret, retQ_normal, RX_nil, RX_tmp, RX_cell, one_nil, one_one, one_two, argEnv_nil, argEnv_cons, Nat.reduceAdd, List.length_cons, List.length_nil, List.cons_append, List.nil_append, List.drop_succ_cons, List.drop_zero, List.drop_nil, List.take_succ_cons, List.take_zero, List.headD_cons, Nat.reduceLeDiff, true_and, and_true, eq_self, Nat.le_refl, Nat.reduceLT, List.getD_cons_zero, List.getD_cons_succ])
    refine ⟨by omega, by omega, ?_⟩
    (try simp -dsimp -implicitDefEqProofs only [EV1, EV2, EV3, EV4, Nat.reduceEqDiff, ↓reduceIte, List.contains_cons, List.contains_nil, Nat.reduceBEq, Bool.or_false, Bool.false_or, Bool.or_true, Bool.true_or, Bool.not_true, Bool.not_false, reduceCtorEq, List.map_cons, List.map_nil, BEq.rfl, retQ_ret, retQ_normal, RX_nil, RX_tmp, RX_cell, one_nil, one_one, one_two, argEnv_nil, argEnv_cons, Nat.reduceAdd, List.length_cons, List.length_nil, List.cons_append, List.nil_append, List.drop_succ_cons, List.drop_zero, List.drop_nil, List.take_succ_cons, List.take_zero, List.headD_cons, Nat.reduceLeDiff, true_and, and_true, eq_self, Nat.le_refl, Nat.reduceLT, List.getD_cons_zero, List.getD_cons_succ])
    simp only [Int.toNat_natCast]
    refine split_case (fun h1 => ?_) (fun h1 => ?_)
    · have h1 := of_decide_eq_true h1
      (try simp -dsimp -implicitDefEqProofs only [EV1, EV2, EV3, EV4, Nat.reduceEqDiff, ↓reduceIte, List.contains_cons, List.contains_nil, Nat.reduceBEq, Bool.or_false, Bool.false_or, Bool.or_true, Bool.true_or, Bool.not_true, Bool.not_false, reduceCtorEq, List.map_cons, List.map_nil, BEq.rfl, retQ_ret, retQ_normal, RX_nil, RX_tmp, RX_cell, one_nil, one_one, one_two, argEnv_nil, argEnv_cons, Nat.reduceAdd, List.length_cons, List.length_nil, List.cons_append, List.nil_append, List.drop_succ_cons, List.drop_zero, List.drop_nil, List.take_succ_cons, List.take_zero, List.headD_cons, Nat.reduceLeDiff, true_and, and_true, eq_self, Nat.le_refl, Nat.reduceLT, List.getD_cons_zero, List.getD_cons_succ, hw])
      rw [unq_mark s i (by omega) (by omega)] at he
      have := hsome (t ++ []) _ he
      rw [List.append_nil] at this
      have e : ((1 + (i - (a + 1)) + a + 1 : Nat) : Int) = (i : Int) + 1 := by omega
      rw [e] at this
      exact this _
    · have h1 := of_decide_eq_false h1
      (try simp -dsimp -implicitDefEqProofs only [EV1, EV2, EV3, EV4, Nat.reduceEqDiff, ↓reduceIte, List.contains_cons, List.contains_nil, Nat.reduceBEq, Bool.or_false, Bool.false_or, Bool.or_true, Bool.true_or, Bool.not_true, Bool.not_false, reduceCtorEq, List.map_cons, List.map_nil, BEq.rfl, retQ_ret, retQ_normal, RX_nil, RX_tmp, RX_cell, one_nil, one_one, one_two, argEnv_nil, argEnv_cons, Nat.reduceAdd, List.length_cons, List.length_nil, List.cons_append, List.nil_append, List.drop_succ_cons, List.drop_zero, List.drop_nil, List.take_succ_cons, List.take_zero, List.headD_cons, Nat.reduceLeDiff, true_and, and_true, eq_self, Nat.le_refl, Nat.reduceLT, List.getD_cons_zero, List.getD_cons_succ])
      refine ⟨by omega, by omega, ?_⟩
      (try simp -dsimp -implicitDefEqProofs only [EV1, EV2, EV3, EV4, Nat.reduceEqDiff, ↓reduceIte, List.contains_cons, List.contains_nil, Nat.reduceBEq, Bool.or_false, Bool.false_or, Bool.or_true, Bool.true_or, Bool.not_true, Bool.not_false, reduceCtorEq, List.map_cons, List.map_nil, BEq.rfl, retQ_ret, retQ_normal, RX_nil, RX_tmp, RX_cell, one_nil, one_one, one_two, argEnv_nil, argEnv_cons, Nat.reduceAdd, List.length_cons, List.length_nil, List.cons_append, List.nil_append, List.drop_succ_cons, List.drop_zero, List.drop_nil, List.take_succ_cons, List.take_zero, List.headD_cons, Nat.reduceLeDiff, true_and, and_true, eq_self, Nat.le_refl, Nat.reduceLT, List.getD_cons_zero, List.getD_cons_succ])
      simp only [Int.toNat_natCast]
      refine split_case (fun h2 => ?_) (fun h2 => ?_)
      · have h2 := of_decide_eq_true h2
        (try simp -dsimp -implicitDefEqProofs only [EV1, EV2, EV3, EV4, Nat.reduceEqDiff, ↓reduceIte, List.contains_cons, List.contains_nil, Nat.reduceBEq, Bool.or_false, Bool.false_or, Bool.or_true, Bool.true_or, Bool.not_true, Bool.not_false, reduceCtorEq, List.map_cons, List.map_nil, BEq.rfl, retQ_ret, retQ_normal, RX_nil, RX_tmp, RX_cell, one_nil, one_one, one_two, argEnv_nil, argEnv_cons, Nat.reduceAdd, List.length_cons, List.length_nil, List.cons_append, List.nil_append, List.drop_succ_cons, List.drop_zero, List.drop_nil, List.take_succ_cons, List.take_zero, List.headD_cons, Nat.reduceLeDiff, true_and, and_true, eq_self, Nat.le_refl, Nat.reduceLT, List.getD_cons_zero, List.getD_cons_succ, hw])
        refine gd_case (fun h3 => ?_) (fun h3 => ?_)
        · have h3 := of_decide_eq_false h3
          (try simp -dsimp -implicitDefEqProofs only [EV1, EV2, EV3, EV4, Nat.reduceEqDiff, ↓reduceIte, List.contains_cons, List.contains_nil, Nat.reduceBEq, Bool.or_false, Bool.false_or, Bool.or_true, Bool.true_or, Bool.not_true, Bool.not_false, reduceCtorEq, List.map_cons, List.map_nil, BEq.rfl, retQ_ret, retQ_normal, RX_nil, RX_tmp, RX_cell, one_nil, one_one, one_two, argEnv_nil, argEnv_cons, Nat.reduceAdd, List.length_cons, List.length_nil, List.cons_append, List.nil_append, List.drop_succ_cons, List.drop_zero, List.drop_nil, List.take_succ_cons, List.take_zero, List.headD_cons, Nat.reduceLeDiff, true_and, and_true, eq_self, Nat.le_refl, Nat.reduceLT, List.getD_cons_zero, List.getD_cons_succ])
          refine ⟨by omega, by omega, ?_⟩
          (try simp -dsimp -implicitDefEqProofs only [EV1, EV2, EV3, EV4, Nat.reduceEqDiff, ↓reduceIte, List.contains_cons, List.contains_nil, Nat.reduceBEq, Bool.or_false, Bool.false_or, Bool.or_true, Bool.true_or, Bool.not_true, Bool.not_false, reduceCtorEq, List.map_cons, List.map_nil, BEq.rfl, retQ_ret, retQ_normal, RX_nil, RX_tmp, RX_cell, one_nil, one_one, one_two, argEnv_nil, argEnv_cons, Nat.reduceAdd, List.length_cons, List.length_nil, List.cons_append, List.nil_append, List.drop_succ_cons, List.drop_zero, List.drop_nil, List.take_succ_cons, List.take_zero, List.headD_cons, Nat.reduceLeDiff, true_and, and_true, eq_self, Nat.le_refl, Nat.reduceLT, List.getD_cons_zero, List.getD_cons_succ])
          have e0 : ((i : Int) + 1).toNat = i + 1 := by omega
          simp only [e0]
          refine gd_case (fun h4 => ?_) (fun h4 => ?_)
          · have h4 := of_decide_eq_true h4
            (try simp -dsimp -implicitDefEqProofs only [EV1, EV2, EV3, EV4, Nat.reduceEqDiff, ↓reduceIte, List.contains_cons, List.contains_nil, Nat.reduceBEq, Bool.or_false, Bool.false_or, Bool.or_true, Bool.true_or, Bool.not_true, Bool.not_false, reduceCtorEq, List.map_cons, List.map_nil, BEq.rfl, retQ_ret, retQ_normal, RX_nil, RX_tmp, RX_cell, one_nil, one_one, one_two, argEnv_nil, argEnv_cons, Nat.reduceAdd, List.length_cons, List.length_nil, List.cons_append, List.nil_append, List.drop_succ_cons, List.drop_zero, List.drop_nil, List.take_succ_cons, List.take_zero, List.headD_cons, Nat.reduceLeDiff, true_and, and_true, eq_self, Nat.le_refl, Nat.reduceLT, List.getD_cons_zero, List.getD_cons_succ])
            refine ⟨by omega, by omega, ?_⟩
            (try simp -dsimp -implicitDefEqProofs only [EV1, EV2, EV3, EV4, Nat.reduceEqDiff, ↓reduceIte, List.contains_cons, List.contains_nil, Nat.reduceBEq, Bool.or_false, Bool.false_or, Bool.or_true, Bool.true_or, Bool.not_true, Bool.not_false, reduceCtorEq, List.map_cons, List.map_nil, BEq.rfl, retQ_ret, retQ_normal, RX_nil, RX_tmp, RX_cell, one_nil, one_one, one_two, argEnv_nil, argEnv_cons, Nat.reduceAdd, List.length_cons, List.length_nil, List.cons_append, List.nil_append, List.drop_succ_cons, List.drop_zero, List.drop_nil, List.take_succ_cons, List.take_zero, List.headD_cons, Nat.reduceLeDiff, true_and, and_true, eq_self, Nat.le_refl, Nat.reduceLT, List.getD_cons_zero, List.getD_cons_succ])
            simp only [e0]
            refine split_case (fun h5 => ?_) (fun h5 => ?_)
            · have h5 := of_decide_eq_true h5
              (try simp -dsimp -implicitDefEqProofs only [EV1, EV2, EV3, EV4, Nat.reduceEqDiff, ↓reduceIte, List.contains_cons, List.contains_nil, Nat.reduceBEq, Bool.or_false, Bool.false_or, Bool.or_true, Bool.true_or, Bool.not_true, Bool.not_false, reduceCtorEq, List.map_cons, List.map_nil, BEq.rfl, retQ_ret, retQ_normal, RX_nil, RX_tmp, RX_cell, one_nil, one_one, one_two, argEnv_nil, argEnv_cons, Nat.reduceAdd, List.length_cons, List.length_nil, List.cons_append, List.nil_append, List.drop_succ_cons, List.drop_zero, List.drop_nil, List.take_succ_cons, List.take_zero, List.headD_cons, Nat.reduceLeDiff, true_and, and_true, eq_self, Nat.le_refl, Nat.reduceLT, List.getD_cons_zero, List.getD_cons_succ])
              rw [unq_esc_bad s i (by omega) (by omega) (by omega)] at he
              exact hnone he _
            · have h5 := of_decide_eq_false h5
              have hw2 : IntKind.i64.wrap ((i : Int) + 1 + 1) = (i : Int) + 1 + 1 := wrap_i64 (by omega) (by omega)
              (try simp -dsimp -implicitDefEqProofs only [EV1, EV2, EV3, EV4, Nat.reduceEqDiff, ↓reduceIte, List.contains_cons, List.contains_nil, Nat.reduceBEq, Bool.or_false, Bool.false_or, Bool.or_true, Bool.true_or, Bool.not_true, Bool.not_false, reduceCtorEq, List.map_cons, List.map_nil, BEq.rfl, retQ_ret, retQ_normal, RX_nil, RX_tmp, RX_cell, one_nil, one_one, one_two, argEnv_nil, argEnv_cons, Nat.reduceAdd, List.length_cons, List.length_nil, List.cons_append, List.nil_append, List.drop_succ_cons, List.drop_zero, List.drop_nil, List.take_succ_cons, List.take_zero, List.headD_cons, Nat.reduceLeDiff, true_and, and_true, eq_self, Nat.le_refl, Nat.reduceLT, List.getD_cons_zero, List.getD_cons_succ, hw, hw2])
              refine ⟨by omega, by omega, by omega, ?_⟩
              (try simp -dsimp -implicitDefEqProofs only [EV1, EV2, EV3, EV4, Nat.reduceEqDiff, ↓reduceIte, List.contains_cons, List.contains_nil, Nat.reduceBEq, Bool.or_false, Bool.false_or, Bool.or_true, Bool.true_or, Bool.not_true, Bool.not_false, reduceCtorEq, List.map_cons, List.map_nil, BEq.rfl, retQ_ret, retQ_normal, RX_nil, RX_tmp, RX_cell, one_nil, one_one, one_two, argEnv_nil, argEnv_cons, Nat.reduceAdd, List.length_cons, List.length_nil, List.cons_append, List.nil_append, List.drop_succ_cons, List.drop_zero, List.drop_nil, List.take_succ_cons, List.take_zero, List.headD_cons, Nat.reduceLeDiff, true_and, and_true, eq_self, Nat.le_refl, Nat.reduceLT, List.getD_cons_zero, List.getD_cons_succ, hw, hw2])
              have e1 : ((i : Int) + 1).toNat = i + 1 := by omega
              have e2 : ((i : Int) + 1 + 1).toNat = i + 1 + 1 := by omega
              rw [e1, e2, one_byte s (i + 1) (by omega)]
              refine ⟨by simp; omega, ?_⟩
              (try simp -dsimp -implicitDefEqProofs only [EV1, EV2, EV3, EV4, Nat.reduceEqDiff, ↓reduceIte, List.contains_cons, List.contains_nil, Nat.reduceBEq, Bool.or_false, Bool.false_or, Bool.or_true, Bool.true_or, Bool.not_true, Bool.not_false, reduceCtorEq, List.map_cons, List.map_nil, BEq.rfl, retQ_ret, retQ_normal, RX_nil, RX_tmp, RX_cell, one_nil, one_one, one_two, argEnv_nil, argEnv_cons, Nat.reduceAdd, List.length_cons, List.length_nil, List.cons_append, List.nil_append, List.drop_succ_cons, List.drop_zero, List.drop_nil, List.take_succ_cons, List.take_zero, List.headD_cons, Nat.reduceLeDiff, true_and, and_true, eq_self, Nat.le_refl, Nat.reduceLT, List.getD_cons_zero, List.getD_cons_succ, hw, hw2])
              rw [unq_esc s i (by omega) (by omega) (by omega), more_more] at he
              refine ⟨(i + 2, t ++ [s.getD (i + 1) 0]), ⟨by omega, by omega, by simp; omega, ?_⟩, by simp only; omega, Weak.rfl' _ _⟩
              rw [he, show 2 + (i - (a + 1)) = i + 2 - (a + 1) by omega]
          · have h4 := of_decide_eq_false h4
            have hw2 : IntKind.i64.wrap ((i : Int) + 1 + 1) = (i : Int) + 1 + 1 := wrap_i64 (by omega) (by omega)
            (try simp -dsimp -implicitDefEqProofs only [EV1, EV2, EV3, EV4, Nat.reduceEqDiff, ↓reduceIte, List.contains_cons, List.contains_nil, Nat.reduceBEq, Bool.or_false, Bool.false_or, Bool.or_true, Bool.true_or, Bool.not_true, Bool.not_false, reduceCtorEq, List.map_cons, List.map_nil, BEq.rfl, retQ_ret, retQ_normal, RX_nil, RX_tmp, RX_cell, one_nil, one_one, one_two, argEnv_nil, argEnv_cons, Nat.reduceAdd, List.length_cons, List.length_nil, List.cons_append, List.nil_append, List.drop_succ_cons, List.drop_zero, List.drop_nil, List.take_succ_cons, List.take_zero, List.headD_cons, Nat.reduceLeDiff, true_and, and_true, eq_self, Nat.le_refl, Nat.reduceLT, List.getD_cons_zero, List.getD_cons_succ, hw, hw2])
            refine ⟨by omega, by omega, by omega, ?_⟩
            (try simp -dsimp -implicitDefEqProofs only [EV1, EV2, EV3, EV4, Nat.reduceEqDiff, ↓reduceIte, List.contains_cons, List.contains_nil, Nat.reduceBEq, Bool.or_false, Bool.false_or, Bool.or_true, Bool.true_or, Bool.not_true, Bool.not_false, reduceCtorEq, List.map_cons, List.map_nil, BEq.rfl, retQ_ret, retQ_normal, RX_nil, RX_tmp, RX_cell, one_nil, one_one, one_two, argEnv_nil, argEnv_cons, Nat.reduceAdd, List.length_cons, List.length_nil, List.cons_append, List.nil_append, List.drop_succ_cons, List.drop_zero, List.drop_nil, List.take_succ_cons, List.take_zero, List.headD_cons, Nat.reduceLeDiff, true_and, and_true, eq_self, Nat.le_refl, Nat.reduceLT, List.getD_cons_zero, List.getD_cons_succ, hw, hw2])
            have e1 : ((i : Int) + 1).toNat = i + 1 := by omega
            have e2 : ((i : Int) + 1 + 1).toNat = i + 1 + 1 := by omega
            rw [e1, e2, one_byte s (i + 1) (by omega)]
            refine ⟨by simp; omega, ?_⟩
            (try simp -dsimp -implicitDefEqProofs only [EV1, EV2, EV3, EV4, Nat.reduceEqDiff, ↓reduceIte, List.contains_cons, List.contains_nil, Nat.reduceBEq, Bool.or_false, Bool.false_or, Bool.or_true, Bool.true_or, Bool.not_true, Bool.not_false, reduceCtorEq, List.map_cons, List.map_nil, BEq.rfl, retQ_ret, retQ_normal, RX_nil, RX_tmp, RX_cell, one_nil, one_one, one_two, argEnv_nil, argEnv_cons, Nat.reduceAdd, List.length_cons, List.length_nil, List.cons_append, List.nil_append, List.drop_succ_cons, List.drop_zero, List.drop_nil, List.take_succ_cons, List.take_zero, List.headD_cons, Nat.reduceLeDiff, true_and, and_true, eq_self, Nat.le_refl, Nat.reduceLT, List.getD_cons_zero, List.getD_cons_succ, hw, hw2])
            rw [unq_esc s i (by omega) (by omega) (by omega), more_more] at he
            refine ⟨(i + 2, t ++ [s.getD (i + 1) 0]), ⟨by omega, by omega, by simp; omega, ?_⟩, by simp only; omega, Weak.rfl' _ _⟩
            rw [he, show 2 + (i - (a + 1)) = i + 2 - (a + 1) by omega]
        · have h3 := of_decide_eq_true h3
          (try simp -dsimp -implicitDefEqProofs only [EV1, EV2, EV3, EV4, Nat.reduceEqDiff, ↓reduceIte, List.contains_cons, List.contains_nil, Nat.reduceBEq, Bool.or_false, Bool.false_or, Bool.or_true, Bool.true_or, Bool.not_true, Bool.not_false, reduceCtorEq, List.map_cons, List.map_nil, BEq.rfl, retQ_ret, retQ_normal, RX_nil, RX_tmp, RX_cell, one_nil, one_one, one_two, argEnv_nil, argEnv_cons, Nat.reduceAdd, List.length_cons, List.length_nil, List.cons_append, List.nil_append, List.drop_succ_cons, List.drop_zero, List.drop_nil, List.take_succ_cons, List.take_zero, List.headD_cons, Nat.reduceLeDiff, true_and, and_true, eq_self, Nat.le_refl, Nat.reduceLT, List.getD_cons_zero, List.getD_cons_succ])
          rw [unq_esc_end s i (by omega) (by omega) (by omega)] at he
          exact hnone he _
      · have h2 := of_decide_eq_false h2
        (try simp -dsimp -implicitDefEqProofs only [EV1, EV2, EV3, EV4, Nat.reduceEqDiff, ↓reduceIte, List.contains_cons, List.contains_nil, Nat.reduceBEq, Bool.or_false, Bool.false_or, Bool.or_true, Bool.true_or, Bool.not_true, Bool.not_false, reduceCtorEq, List.map_cons, List.map_nil, BEq.rfl, retQ_ret, retQ_normal, RX_nil, RX_tmp, RX_cell, one_nil, one_one, one_two, argEnv_nil, argEnv_cons, Nat.reduceAdd, List.length_cons, List.length_nil, List.cons_append, List.nil_append, List.drop_succ_cons, List.drop_zero, List.drop_nil, List.take_succ_cons, List.take_zero, List.headD_cons, Nat.reduceLeDiff, true_and, and_true, eq_self, Nat.le_refl, Nat.reduceLT, List.getD_cons_zero, List.getD_cons_succ, hw])
        refine ⟨by omega, by omega, by omega, ?_⟩
        (try simp -dsimp -implicitDefEqProofs only [EV1, EV2, EV3, EV4, Nat.reduceEqDiff, ↓reduceIte, List.contains_cons, List.contains_nil, Nat.reduceBEq, Bool.or_false, Bool.false_or, Bool.or_true, Bool.true_or, Bool.not_true, Bool.not_false, reduceCtorEq, List.map_cons, List.map_nil, BEq.rfl, retQ_ret, retQ_normal, RX_nil, RX_tmp, RX_cell, one_nil, one_one, one_two, argEnv_nil, argEnv_cons, Nat.reduceAdd, List.length_cons, List.length_nil, List.cons_append, List.nil_append, List.drop_succ_cons, List.drop_zero, List.drop_nil, List.take_succ_cons, List.take_zero, List.headD_cons, Nat.reduceLeDiff, true_and, and_true, eq_self, Nat.le_refl, Nat.reduceLT, List.getD_cons_zero, List.getD_cons_succ, hw])
        have e1 : ((i : Int)).toNat = i := by omega
        have e2 : ((i : Int) + 1).toNat = i + 1 := by omega
        rw [e1, e2, one_byte s i (by omega)]
        refine ⟨by simp; omega, ?_⟩
        (try simp -dsimp -implicitDefEqProofs only [EV1, EV2, EV3, EV4, Nat.reduceEqDiff, ↓reduceIte, List.contains_cons, List.contains_nil, Nat.reduceBEq, Bool.or_false, Bool.false_or, Bool.or_true, Bool.true_or, Bool.not_true, Bool.not_false, reduceCtorEq, List.map_cons, List.map_nil, BEq.rfl, retQ_ret, retQ_normal, RX_nil, RX_tmp, RX_cell, one_nil, one_one, one_two, argEnv_nil, argEnv_cons, Nat.reduceAdd, List.length_cons, List.length_nil, List.cons_append, List.nil_append, List.drop_succ_cons, List.drop_zero, List.drop_nil, List.take_succ_cons, List.take_zero, List.headD_cons, Nat.reduceLeDiff, true_and, and_true, eq_self, Nat.le_refl, Nat.reduceLT, List.getD_cons_zero, List.getD_cons_succ, hw])
        rw [unq_plain s i (by omega) (by omega) (by omega), more_more] at he
        refine ⟨(i + 1, t ++ [s.getD i 0]), ⟨by omega, by omega, by simp; omega, ?_⟩, by simp only; omega, Weak.rfl' _ _⟩
        rw [he, show 1 + (i - (a + 1)) = i + 1 - (a + 1) by omega]
  · have h := of_decide_eq_false h
    (try simp -dsimp -implicitDefEqProofs only [EV1, EV2, EV3, EV4, Nat.reduceEqDiff, ↓reduceIte, List.contains_cons, List.contains_nil, Nat.reduceBEq, Bool.or_false, Bool.false_or, Bool.or_true, Bool.true_or, Bool.not_true, Bool.not_false, reduceCtorEq, List.map_cons, List.map_nil, BEq.rfl, retQ_ret, retQ_normal, RX_nil, RX_tmp, RX_cell, one_nil, one_one, one_two, argEnv_nil, argEnv_cons, Nat.reduceAdd, List.length_cons, List.length_nil, List.cons_append, List.nil_append, List.drop_succ_cons, List.drop_zero, List.drop_nil, List.take_succ_cons, List.take_zero, List.headD_cons, Nat.reduceLeDiff, true_and, and_true, eq_self, Nat.le_refl, Nat.reduceLT, List.getD_cons_zero, List.getD_cons_succ])
    rw [unq_end s i (by omega)] at he
    exact hnone he _
end
end Go.Av
