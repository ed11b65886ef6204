/-
  THE LEXER, 21: the reference's Quote and Piece; TokenOffsets.
-/
import Derived.Test.YtmghejoigggooaaGreatDoorXTok19
namespace Go.Av
open Go Go.RowKit Go.Proofs
set_option linter.unusedSimpArgs false
set_option linter.unusedVariables false

/-- A token as it is written. -/
def pieceS (k : Int) (t : List UInt8) : List UInt8 := if k = 1 then quoteS t else t

section
variable (G : Glob)

theorem f20 (s : List UInt8) (hs : s.length < 1000000) : Pure G Tryz.prog 20 [.str s] (.str (quoteS s)) := by
  refine Pure.w c20 fun R hR => ?_
  have hyes : ∀ σ, RET (.str (quoteS s)) σ R := fun σ => RET.eq hR rfl
  clear hR
  unfold s20 r20
  (try simp -dsimp -implicitDefEqProofs only [EV1, EV2, EV3, EV4, Nat.reduceEqDiff, ↓reduceIte, List.contains_cons, List.contains_nil, Nat.reduceBEq, Bool.or_false, Bool.false_or, Bool.or_true, Bool.true_or, Bool.not_true, Bool.not_false, reduceCtorEq, List.map_cons, List.map_nil, BEq.rfl, retQ_ret, retQ_normal, RX_nil, RX_tmp, RX_cell, one_nil, one_one, one_two, argEnv_nil, argEnv_cons, Nat.reduceAdd, List.length_cons, List.length_nil, List.cons_append, List.nil_append, List.drop_succ_cons, List.drop_zero, List.drop_nil, List.take_succ_cons, List.take_zero, List.headD_cons, Nat.reduceLeDiff, true_and, and_true, eq_self, Nat.le_refl, Nat.reduceLT, List.getD_cons_zero, List.getD_cons_succ, Int.reduceToNat, UInt8.reduceToNat, Nat.reduceMul, Nat.reduceAdd, Nat.reduceSub, Int.reduceLT, Int.reduceLE, Int.reduceAdd, Int.reduceSub, Int.reduceMul, Int.reduceEq, Int.reduceNe, Int.reduceNeg, Int.reduceTDiv, Int.reduceTMod, decide_true, decide_false, Nat.zero_add, Nat.mul_one, Int.cast_ofNat_Int, Int.toNat_zero, Bool.true_eq_false, Bool.false_eq_true, not_true_eq_false, not_false_eq_true, wrap_i64, ne_eq, Option.map_some, Bool.true_and, Bool.and_true, Bool.false_and, Bool.and_false])
  refine W_loop (ι := Nat) (fun i => i ≤ s.length) (fun i => s.length - i) (fun i => [(0, .str s), (3, .str (34 :: escS (s.take i))), (4, .int .i64 i)]) (fun _ => []) 0 (by omega) (Weak.rfl' _ _) ?_
  intro i hi
  (try simp -dsimp -implicitDefEqProofs only [EV1, EV2, EV3, EV4, Nat.reduceEqDiff, ↓reduceIte, List.contains_cons, List.contains_nil, Nat.reduceBEq, Bool.or_false, Bool.false_or, Bool.or_true, Bool.true_or, Bool.not_true, Bool.not_false, reduceCtorEq, List.map_cons, List.map_nil, BEq.rfl, retQ_ret, retQ_normal, RX_nil, RX_tmp, RX_cell, one_nil, one_one, one_two, argEnv_nil, argEnv_cons, Nat.reduceAdd, List.length_cons, List.length_nil, List.cons_append, List.nil_append, List.drop_succ_cons, List.drop_zero, List.drop_nil, List.take_succ_cons, List.take_zero, List.headD_cons, Nat.reduceLeDiff, true_and, and_true, eq_self, Nat.le_refl, Nat.reduceLT, List.getD_cons_zero, List.getD_cons_succ, Int.reduceToNat, UInt8.reduceToNat, Nat.reduceMul, Nat.reduceAdd, Nat.reduceSub, Int.reduceLT, Int.reduceLE, Int.reduceAdd, Int.reduceSub, Int.reduceMul, Int.reduceEq, Int.reduceNe, Int.reduceNeg, Int.reduceTDiv, Int.reduceTMod, decide_true, decide_false, Nat.zero_add, Nat.mul_one, Int.cast_ofNat_Int, Int.toNat_zero, Bool.true_eq_false, Bool.false_eq_true, not_true_eq_false, not_false_eq_true, wrap_i64, ne_eq, Option.map_some, Bool.true_and, Bool.and_true, Bool.false_and, Bool.and_false])
  refine split_case (fun h2 => ?_) (fun h2 => ?_)
  · have h2 := of_decide_eq_true h2
    have hi1 : i < s.length := by omega
    have hw : IntKind.i64.wrap ((i : Int) + 1) = (i : Int) + 1 := wrap_i64 (by omega) (by omega)
    have hf := fill_step s i hi1
    have hl := fill_le s i
    have hl1 := fill_le s (i + 1)
    have hlen := escS_len s
    have hcnt := cntE_le s
    have hob := one_byte s i hi1
    have hl2 : (escS (s.take (i + 1))).length = (escS (s.take i)).length + (escC (s.getD i 0)).length := by rw [hf]; simp
    have close : ∀ x : List UInt8, x = escC (s.getD i 0) → ∃ j, j ≤ s.length ∧ s.length - j < s.length - i ∧ Weak G [(0, .str s), (3, .str (34 :: (escS (s.take i) ++ x))), (4, .int .i64 ((i : Int) + 1))] [] [(0, .str s), (3, .str (34 :: escS (s.take j))), (4, .int .i64 j)] [] := fun x hx =>
      ⟨i + 1, by omega, by omega, by rw [hf, hx]; exact Weak.rfl' _ _⟩
    obtain ⟨c, hc⟩ : ∃ c, s.getD i 0 = c := ⟨_, rfl⟩
    rw [hc] at close hl2 hob hf
    have hd : List.drop ((i : Int)).toNat (List.take ((i : Int) + 1).toNat s) = [c] := hob
    have hesc : (c.toNat = 34 ∨ c.toNat = 92) → escC c = [92, c] := fun h => by unfold escC isEsc; rcases h with h | h <;> simp [h]
    have hpl : ¬ c.toNat = 34 → ¬ c.toNat = 92 → escC c = [c] := fun h h' => by unfold escC isEsc; simp [h, h']
    (try simp -dsimp -implicitDefEqProofs only [EV1, EV2, EV3, EV4, Nat.reduceEqDiff, ↓reduceIte, List.contains_cons, List.contains_nil, Nat.reduceBEq, Bool.or_false, Bool.false_or, Bool.or_true, Bool.true_or, Bool.not_true, Bool.not_false, reduceCtorEq, List.map_cons, List.map_nil, BEq.rfl, retQ_ret, retQ_normal, RX_nil, RX_tmp, RX_cell, one_nil, one_one, one_two, argEnv_nil, argEnv_cons, Nat.reduceAdd, List.length_cons, List.length_nil, List.cons_append, List.nil_append, List.drop_succ_cons, List.drop_zero, List.drop_nil, List.take_succ_cons, List.take_zero, List.headD_cons, Nat.reduceLeDiff, true_and, and_true, eq_self, Nat.le_refl, Nat.reduceLT, List.getD_cons_zero, List.getD_cons_succ, Int.reduceToNat, UInt8.reduceToNat, Nat.reduceMul, Nat.reduceAdd, Nat.reduceSub, Int.reduceLT, Int.reduceLE, Int.reduceAdd, Int.reduceSub, Int.reduceMul, Int.reduceEq, Int.reduceNe, Int.reduceNeg, Int.reduceTDiv, Int.reduceTMod, decide_true, decide_false, Nat.zero_add, Nat.mul_one, Int.cast_ofNat_Int, Int.toNat_zero, Bool.true_eq_false, Bool.false_eq_true, not_true_eq_false, not_false_eq_true, wrap_i64, ne_eq, Option.map_some, Bool.true_and, Bool.and_true, Bool.false_and, Bool.and_false, Int.toNat_natCast, hc])
    refine ⟨by omega, by omega, ?_⟩
    refine gd_case (fun h3 => ?_) (fun h3 => ?_)
    · have h3 : ¬ c.toNat = 34 := by have := of_decide_eq_false h3; omega
      (try simp -dsimp -implicitDefEqProofs only [EV1, EV2, EV3, EV4, Nat.reduceEqDiff, ↓reduceIte, List.contains_cons, List.contains_nil, Nat.reduceBEq, Bool.or_false, Bool.false_or, Bool.or_true, Bool.true_or, Bool.not_true, Bool.not_false, reduceCtorEq, List.map_cons, List.map_nil, BEq.rfl, retQ_ret, retQ_normal, RX_nil, RX_tmp, RX_cell, one_nil, one_one, one_two, argEnv_nil, argEnv_cons, Nat.reduceAdd, List.length_cons, List.length_nil, List.cons_append, List.nil_append, List.drop_succ_cons, List.drop_zero, List.drop_nil, List.take_succ_cons, List.take_zero, List.headD_cons, Nat.reduceLeDiff, true_and, and_true, eq_self, Nat.le_refl, Nat.reduceLT, List.getD_cons_zero, List.getD_cons_succ, Int.reduceToNat, UInt8.reduceToNat, Nat.reduceMul, Nat.reduceAdd, Nat.reduceSub, Int.reduceLT, Int.reduceLE, Int.reduceAdd, Int.reduceSub, Int.reduceMul, Int.reduceEq, Int.reduceNe, Int.reduceNeg, Int.reduceTDiv, Int.reduceTMod, decide_true, decide_false, Nat.zero_add, Nat.mul_one, Int.cast_ofNat_Int, Int.toNat_zero, Bool.true_eq_false, Bool.false_eq_true, not_true_eq_false, not_false_eq_true, wrap_i64, ne_eq, Option.map_some, Bool.true_and, Bool.and_true, Bool.false_and, Bool.and_false, Int.toNat_natCast, hc])
      refine ⟨by omega, by omega, ?_⟩
      refine split_case (fun h4 => ?_) (fun h4 => ?_)
      · have h4 : c.toNat = 92 := by have := of_decide_eq_true h4; omega
        (try simp -dsimp -implicitDefEqProofs only [EV1, EV2, EV3, EV4, Nat.reduceEqDiff, ↓reduceIte, List.contains_cons, List.contains_nil, Nat.reduceBEq, Bool.or_false, Bool.false_or, Bool.or_true, Bool.true_or, Bool.not_true, Bool.not_false, reduceCtorEq, List.map_cons, List.map_nil, BEq.rfl, retQ_ret, retQ_normal, RX_nil, RX_tmp, RX_cell, one_nil, one_one, one_two, argEnv_nil, argEnv_cons, Nat.reduceAdd, List.length_cons, List.length_nil, List.cons_append, List.nil_append, List.drop_succ_cons, List.drop_zero, List.drop_nil, List.take_succ_cons, List.take_zero, List.headD_cons, Nat.reduceLeDiff, true_and, and_true, eq_self, Nat.le_refl, Nat.reduceLT, List.getD_cons_zero, List.getD_cons_succ, Int.reduceToNat, UInt8.reduceToNat, Nat.reduceMul, Nat.reduceAdd, Nat.reduceSub, Int.reduceLT, Int.reduceLE, Int.reduceAdd, Int.reduceSub, Int.reduceMul, Int.reduceEq, Int.reduceNe, Int.reduceNeg, Int.reduceTDiv, Int.reduceTMod, decide_true, decide_false, Nat.zero_add, Nat.mul_one, Int.cast_ofNat_Int, Int.toNat_zero, Bool.true_eq_false, Bool.false_eq_true, not_true_eq_false, not_false_eq_true, wrap_i64, ne_eq, Option.map_some, Bool.true_and, Bool.and_true, Bool.false_and, Bool.and_false, hw])
        rw [hd]
        have he := hesc (Or.inr h4)
        have hl3 : (escC c).length = 2 := by rw [he]; rfl
        have hx := close [92, c] he.symm
        refine ⟨by omega, by omega, by omega, by omega, by simp only [List.length_append, List.length_cons, List.length_nil]; omega, ?_⟩
        rw [List.append_assoc]
        exact hx
      · have h4 : ¬ c.toNat = 92 := by have := of_decide_eq_false h4; omega
        (try simp -dsimp -implicitDefEqProofs only [EV1, EV2, EV3, EV4, Nat.reduceEqDiff, ↓reduceIte, List.contains_cons, List.contains_nil, Nat.reduceBEq, Bool.or_false, Bool.false_or, Bool.or_true, Bool.true_or, Bool.not_true, Bool.not_false, reduceCtorEq, List.map_cons, List.map_nil, BEq.rfl, retQ_ret, retQ_normal, RX_nil, RX_tmp, RX_cell, one_nil, one_one, one_two, argEnv_nil, argEnv_cons, Nat.reduceAdd, List.length_cons, List.length_nil, List.cons_append, List.nil_append, List.drop_succ_cons, List.drop_zero, List.drop_nil, List.take_succ_cons, List.take_zero, List.headD_cons, Nat.reduceLeDiff, true_and, and_true, eq_self, Nat.le_refl, Nat.reduceLT, List.getD_cons_zero, List.getD_cons_succ, Int.reduceToNat, UInt8.reduceToNat, Nat.reduceMul, Nat.reduceAdd, Nat.reduceSub, Int.reduceLT, Int.reduceLE, Int.reduceAdd, Int.reduceSub, Int.reduceMul, Int.reduceEq, Int.reduceNe, Int.reduceNeg, Int.reduceTDiv, Int.reduceTMod, decide_true, decide_false, Nat.zero_add, Nat.mul_one, Int.cast_ofNat_Int, Int.toNat_zero, Bool.true_eq_false, Bool.false_eq_true, not_true_eq_false, not_false_eq_true, wrap_i64, ne_eq, Option.map_some, Bool.true_and, Bool.and_true, Bool.false_and, Bool.and_false, hw])
        rw [hd]
        have he := hpl h3 h4
        have hl3 : (escC c).length = 1 := by rw [he]; rfl
        exact ⟨by omega, by omega, by omega, by simp only [List.length_append, List.length_cons, List.length_nil]; omega, close [c] he.symm⟩
    · have h3 : c.toNat = 34 := by have := of_decide_eq_true h3; omega
      (try simp -dsimp -implicitDefEqProofs only [EV1, EV2, EV3, EV4, Nat.reduceEqDiff, ↓reduceIte, List.contains_cons, List.contains_nil, Nat.reduceBEq, Bool.or_false, Bool.false_or, Bool.or_true, Bool.true_or, Bool.not_true, Bool.not_false, reduceCtorEq, List.map_cons, List.map_nil, BEq.rfl, retQ_ret, retQ_normal, RX_nil, RX_tmp, RX_cell, one_nil, one_one, one_two, argEnv_nil, argEnv_cons, Nat.reduceAdd, List.length_cons, List.length_nil, List.cons_append, List.nil_append, List.drop_succ_cons, List.drop_zero, List.drop_nil, List.take_succ_cons, List.take_zero, List.headD_cons, Nat.reduceLeDiff, true_and, and_true, eq_self, Nat.le_refl, Nat.reduceLT, List.getD_cons_zero, List.getD_cons_succ, Int.reduceToNat, UInt8.reduceToNat, Nat.reduceMul, Nat.reduceAdd, Nat.reduceSub, Int.reduceLT, Int.reduceLE, Int.reduceAdd, Int.reduceSub, Int.reduceMul, Int.reduceEq, Int.reduceNe, Int.reduceNeg, Int.reduceTDiv, Int.reduceTMod, decide_true, decide_false, Nat.zero_add, Nat.mul_one, Int.cast_ofNat_Int, Int.toNat_zero, Bool.true_eq_false, Bool.false_eq_true, not_true_eq_false, not_false_eq_true, wrap_i64, ne_eq, Option.map_some, Bool.true_and, Bool.and_true, Bool.false_and, Bool.and_false, hw])
      rw [hd]
      have he := hesc (Or.inl h3)
      have hl3 : (escC c).length = 2 := by rw [he]; rfl
      have hx := close [92, c] he.symm
      refine ⟨by omega, by omega, by omega, by omega, by simp only [List.length_append, List.length_cons, List.length_nil]; omega, ?_⟩
      rw [List.append_assoc]
      exact hx
  · have h2 := of_decide_eq_false h2
    obtain rfl : i = s.length := by omega
    have hlen := escS_len s
    have hcnt := cntE_le s
    (try simp -dsimp -implicitDefEqProofs only [EV1, EV2, EV3, EV4, Nat.reduceEqDiff, ↓reduceIte, List.contains_cons, List.contains_nil, Nat.reduceBEq, Bool.or_false, Bool.false_or, Bool.or_true, Bool.true_or, Bool.not_true, Bool.not_false, reduceCtorEq, List.map_cons, List.map_nil, BEq.rfl, retQ_ret, retQ_normal, RX_nil, RX_tmp, RX_cell, one_nil, one_one, one_two, argEnv_nil, argEnv_cons, Nat.reduceAdd, List.length_cons, List.length_nil, List.cons_append, List.nil_append, List.drop_succ_cons, List.drop_zero, List.drop_nil, List.take_succ_cons, List.take_zero, List.headD_cons, Nat.reduceLeDiff, true_and, and_true, eq_self, Nat.le_refl, Nat.reduceLT, List.getD_cons_zero, List.getD_cons_succ, Int.reduceToNat, UInt8.reduceToNat, Nat.reduceMul, Nat.reduceAdd, Nat.reduceSub, Int.reduceLT, Int.reduceLE, Int.reduceAdd, Int.reduceSub, Int.reduceMul, Int.reduceEq, Int.reduceNe, Int.reduceNeg, Int.reduceTDiv, Int.reduceTMod, decide_true, decide_false, Nat.zero_add, Nat.mul_one, Int.cast_ofNat_Int, Int.toNat_zero, Bool.true_eq_false, Bool.false_eq_true, not_true_eq_false, not_false_eq_true, wrap_i64, ne_eq, Option.map_some, Bool.true_and, Bool.and_true, Bool.false_and, Bool.and_false, List.take_length])
    exact ⟨by omega, hyes _⟩

theorem f15 (k a : Int) (t : List UInt8) (ht : t.length < 1000000) : Pure G Tryz.prog 15 [.agg [.int .i64 k, .int .i64 a, .str t]] (.str (pieceS k t)) := by
  refine Pure.w c15 fun R hR => ?_
  have h1 : k = 1 → ∀ σ, RET (.str (quoteS t)) σ R := fun h σ => RET.eq hR (by rw [pieceS, if_pos h])
  have h2 : ¬ k = 1 → ∀ σ, RET (.str t) σ R := fun h σ => RET.eq hR (by rw [pieceS, if_neg h])
  clear hR
  unfold s15 r15
  (try simp -dsimp -implicitDefEqProofs only [EV1, EV2, EV3, EV4, Nat.reduceEqDiff, ↓reduceIte, List.contains_cons, List.contains_nil, Nat.reduceBEq, Bool.or_false, Bool.false_or, Bool.or_true, Bool.true_or, Bool.not_true, Bool.not_false, reduceCtorEq, List.map_cons, List.map_nil, BEq.rfl, retQ_ret, retQ_normal, RX_nil, RX_tmp, RX_cell, one_nil, one_one, one_two, argEnv_nil, argEnv_cons, Nat.reduceAdd, List.length_cons, List.length_nil, List.cons_append, List.nil_append, List.drop_succ_cons, List.drop_zero, List.drop_nil, List.take_succ_cons, List.take_zero, List.headD_cons, Nat.reduceLeDiff, true_and, and_true, eq_self, Nat.le_refl, Nat.reduceLT, List.getD_cons_zero, List.getD_cons_succ, Int.reduceToNat, UInt8.reduceToNat, Nat.reduceMul, Nat.reduceAdd, Nat.reduceSub, Int.reduceLT, Int.reduceLE, Int.reduceAdd, Int.reduceSub, Int.reduceMul, Int.reduceEq, Int.reduceNe, Int.reduceNeg, Int.reduceTDiv, Int.reduceTMod, decide_true, decide_false, Nat.zero_add, Nat.mul_one, Int.cast_ofNat_Int, Int.toNat_zero, Bool.true_eq_false, Bool.false_eq_true, not_true_eq_false, not_false_eq_true, wrap_i64, ne_eq, Option.map_some, Bool.true_and, Bool.and_true, Bool.false_and, Bool.and_false])
  intro b hb
  (try simp -dsimp -implicitDefEqProofs only [EV1, EV2, EV3, EV4, Nat.reduceEqDiff, ↓reduceIte, List.contains_cons, List.contains_nil, Nat.reduceBEq, Bool.or_false, Bool.false_or, Bool.or_true, Bool.true_or, Bool.not_true, Bool.not_false, reduceCtorEq, List.map_cons, List.map_nil, BEq.rfl, retQ_ret, retQ_normal, RX_nil, RX_tmp, RX_cell, one_nil, one_one, one_two, argEnv_nil, argEnv_cons, Nat.reduceAdd, List.length_cons, List.length_nil, List.cons_append, List.nil_append, List.drop_succ_cons, List.drop_zero, List.drop_nil, List.take_succ_cons, List.take_zero, List.headD_cons, Nat.reduceLeDiff, true_and, and_true, eq_self, Nat.le_refl, Nat.reduceLT, List.getD_cons_zero, List.getD_cons_succ, Int.reduceToNat, UInt8.reduceToNat, Nat.reduceMul, Nat.reduceAdd, Nat.reduceSub, Int.reduceLT, Int.reduceLE, Int.reduceAdd, Int.reduceSub, Int.reduceMul, Int.reduceEq, Int.reduceNe, Int.reduceNeg, Int.reduceTDiv, Int.reduceTMod, decide_true, decide_false, Nat.zero_add, Nat.mul_one, Int.cast_ofNat_Int, Int.toNat_zero, Bool.true_eq_false, Bool.false_eq_true, not_true_eq_false, not_false_eq_true, wrap_i64, ne_eq, Option.map_some, Bool.true_and, Bool.and_true, Bool.false_and, Bool.and_false])
  refine split_case (fun h => ?_) (fun h => ?_)
  · have h := of_decide_eq_true h
    (try simp -dsimp -implicitDefEqProofs only [EV1, EV2, EV3, EV4, Nat.reduceEqDiff, ↓reduceIte, List.contains_cons, List.contains_nil, Nat.reduceBEq, Bool.or_false, Bool.false_or, Bool.or_true, Bool.true_or, Bool.not_true, Bool.not_false, reduceCtorEq, List.map_cons, List.map_nil, BEq.rfl, retQ_ret, retQ_normal, RX_nil, RX_tmp, RX_cell, one_nil, one_one, one_two, argEnv_nil, argEnv_cons, Nat.reduceAdd, List.length_cons, List.length_nil, List.cons_append, List.nil_append, List.drop_succ_cons, List.drop_zero, List.drop_nil, List.take_succ_cons, List.take_zero, List.headD_cons, Nat.reduceLeDiff, true_and, and_true, eq_self, Nat.le_refl, Nat.reduceLT, List.getD_cons_zero, List.getD_cons_succ, Int.reduceToNat, UInt8.reduceToNat, Nat.reduceMul, Nat.reduceAdd, Nat.reduceSub, Int.reduceLT, Int.reduceLE, Int.reduceAdd, Int.reduceSub, Int.reduceMul, Int.reduceEq, Int.reduceNe, Int.reduceNeg, Int.reduceTDiv, Int.reduceTMod, decide_true, decide_false, Nat.zero_add, Nat.mul_one, Int.cast_ofNat_Int, Int.toNat_zero, Bool.true_eq_false, Bool.false_eq_true, not_true_eq_false, not_false_eq_true, wrap_i64, ne_eq, Option.map_some, Bool.true_and, Bool.and_true, Bool.false_and, Bool.and_false])
    refine CALL_pure (f20 G t ht) ?_
    (try simp -dsimp -implicitDefEqProofs only [EV1, EV2, EV3, EV4, Nat.reduceEqDiff, ↓reduceIte, List.contains_cons, List.contains_nil, Nat.reduceBEq, Bool.or_false, Bool.false_or, Bool.or_true, Bool.true_or, Bool.not_true, Bool.not_false, reduceCtorEq, List.map_cons, List.map_nil, BEq.rfl, retQ_ret, retQ_normal, RX_nil, RX_tmp, RX_cell, one_nil, one_one, one_two, argEnv_nil, argEnv_cons, Nat.reduceAdd, List.length_cons, List.length_nil, List.cons_append, List.nil_append, List.drop_succ_cons, List.drop_zero, List.drop_nil, List.take_succ_cons, List.take_zero, List.headD_cons, Nat.reduceLeDiff, true_and, and_true, eq_self, Nat.le_refl, Nat.reduceLT, List.getD_cons_zero, List.getD_cons_succ, Int.reduceToNat, UInt8.reduceToNat, Nat.reduceMul, Nat.reduceAdd, Nat.reduceSub, Int.reduceLT, Int.reduceLE, Int.reduceAdd, Int.reduceSub, Int.reduceMul, Int.reduceEq, Int.reduceNe, Int.reduceNeg, Int.reduceTDiv, Int.reduceTMod, decide_true, decide_false, Nat.zero_add, Nat.mul_one, Int.cast_ofNat_Int, Int.toNat_zero, Bool.true_eq_false, Bool.false_eq_true, not_true_eq_false, not_false_eq_true, wrap_i64, ne_eq, Option.map_some, Bool.true_and, Bool.and_true, Bool.false_and, Bool.and_false])
    exact h1 h _
  · have h := of_decide_eq_false h
    (try simp -dsimp -implicitDefEqProofs only [EV1, EV2, EV3, EV4, Nat.reduceEqDiff, ↓reduceIte, List.contains_cons, List.contains_nil, Nat.reduceBEq, Bool.or_false, Bool.false_or, Bool.or_true, Bool.true_or, Bool.not_true, Bool.not_false, reduceCtorEq, List.map_cons, List.map_nil, BEq.rfl, retQ_ret, retQ_normal, RX_nil, RX_tmp, RX_cell, one_nil, one_one, one_two, argEnv_nil, argEnv_cons, Nat.reduceAdd, List.length_cons, List.length_nil, List.cons_append, List.nil_append, List.drop_succ_cons, List.drop_zero, List.drop_nil, List.take_succ_cons, List.take_zero, List.headD_cons, Nat.reduceLeDiff, true_and, and_true, eq_self, Nat.le_refl, Nat.reduceLT, List.getD_cons_zero, List.getD_cons_succ, Int.reduceToNat, UInt8.reduceToNat, Nat.reduceMul, Nat.reduceAdd, Nat.reduceSub, Int.reduceLT, Int.reduceLE, Int.reduceAdd, Int.reduceSub, Int.reduceMul, Int.reduceEq, Int.reduceNe, Int.reduceNeg, Int.reduceTDiv, Int.reduceTMod, decide_true, decide_false, Nat.zero_add, Nat.mul_one, Int.cast_ofNat_Int, Int.toNat_zero, Bool.true_eq_false, Bool.false_eq_true, not_true_eq_false, not_false_eq_true, wrap_i64, ne_eq, Option.map_some, Bool.true_and, Bool.and_true, Bool.false_and, Bool.and_false])
    exact h2 h _
end
end Go.Av
