/-
  THE LEXER, 18: the only token of a string; the kind of a string; the examples.
-/
import Derived.Test.YtmghejoigggooaaGreatDoorXTok17
import Derived.Shelf.Strings.SlTrimAscii
namespace Go.Av
open Go Go.RowKit Go.Proofs
set_option linter.unusedSimpArgs false
set_option linter.unusedVariables false

def singleS (s : List UInt8) : Option Tok := match scanAt s 0 with
  | .good [t] => if Lib.trimS s [32, 10] = s then some t else none
  | _ => none
def singleAV : Option Tok → AV
  | some t => .tup [.agg t.row, .bool true]
  | none => .tup [.agg [.int .i64 0, .int .i64 0, .str []], .bool false]

section
variable (G : Glob)

theorem f49 (s : List UInt8) (hs : s.length < 1000000) : Pure G Tryz.prog 49 [.str s, .str [32, 10]] (.str (Lib.trimS s [32, 10])) := by
  refine Pure.of_calls Tryz.func49 (by kernel_rfl) (by kernel_rfl) fun τ w vs hS hA => ?_
  obtain ⟨u, v, rfl, h1, h2⟩ := vs_two hA
  simp only [Rep] at h1 h2
  subst h1 h2
  refine ⟨.string ⟨⟨Lib.trimS s [32, 10]⟩⟩, fun _ _ => by simp only [Rep], ?_⟩
  have hsz : (⟨⟨s⟩⟩ : ByteArray).size = s.length := rfl
  refine (Any.strings_Trim_laid Tryz.lays160 (by kernel_rfl) ⟨⟨s⟩⟩ ⟨⟨[32, 10]⟩⟩ w (by rw [hsz]; omega) (by decide) ?_).mono ?_
  · intro j b hb
    match j, hb with
    | 0, hb => simp at hb; subst hb; decide
    | 1, hb => simp at hb; subst hb; decide
    | j + 2, hb => simp at hb
  · rintro e w' ⟨rfl, hB⟩
    exact ⟨rfl, hB⟩

theorem f34 (s : List UInt8) (hs : s.length < 1000000) : Pure G Tryz.prog 34 [.str s] (singleAV (singleS s)) := by
  refine Pure.w c34 fun R hR => ?_
  unfold s34 r34
  have hnone : singleS s = none → ∀ σ, RET (.tup [.agg [.int .i64 0, .int .i64 0, .str []], .bool false]) σ R := fun h σ => RET.eq hR (by rw [h]; rfl)
  have hsome : ∀ t, singleS s = some t → ∀ σ, RET (.tup [.agg t.row, .bool true]) σ R := fun t h σ => RET.eq hR (by rw [h]; rfl)
  clear hR
  (try simp -dsimp -implicitDefEqProofs only [EV1, EV2, EV3, EV4, Nat.reduceEqDiff, ↓reduceIte, List.contains_cons, List.contains_nil, Nat.reduceBEq, Bool.or_false, Bool.false_or, Bool.or_true, Bool.true_or, Bool.not_true, Bool.not_false, reduceCtorEq, List.map_cons, List.map_nil, BEq.rfl, retQ_ret, retQ_normal, RX_nil, RX_tmp, RX_cell, one_nil, one_one, one_two, argEnv_nil, argEnv_cons, Nat.reduceAdd, List.length_cons, List.length_nil, List.cons_append, List.nil_append, List.drop_succ_cons, List.drop_zero, List.drop_nil, List.take_succ_cons, List.take_zero, List.headD_cons, Nat.reduceLeDiff, true_and, and_true, eq_self, Nat.le_refl, Nat.reduceLT, List.getD_cons_zero, List.getD_cons_succ, Int.reduceToNat, UInt8.reduceToNat, Nat.reduceMul, Nat.reduceAdd, Nat.reduceSub, Int.reduceLT, Int.reduceLE, Int.reduceAdd, Int.reduceSub, Int.reduceMul, Int.reduceEq, Int.reduceNe, Int.reduceNeg, Int.reduceTDiv, Int.reduceTMod, decide_true, decide_false, Nat.zero_add, Nat.mul_one, Int.cast_ofNat_Int, Int.toNat_zero, Bool.true_eq_false, Bool.false_eq_true, not_true_eq_false, not_false_eq_true, wrap_i64, ne_eq, Option.map_some, Bool.true_and, Bool.and_true, Bool.false_and, Bool.and_false])
  intro b hb
  (try simp -dsimp -implicitDefEqProofs only [EV1, EV2, EV3, EV4, Nat.reduceEqDiff, ↓reduceIte, List.contains_cons, List.contains_nil, Nat.reduceBEq, Bool.or_false, Bool.false_or, Bool.or_true, Bool.true_or, Bool.not_true, Bool.not_false, reduceCtorEq, List.map_cons, List.map_nil, BEq.rfl, retQ_ret, retQ_normal, RX_nil, RX_tmp, RX_cell, one_nil, one_one, one_two, argEnv_nil, argEnv_cons, Nat.reduceAdd, List.length_cons, List.length_nil, List.cons_append, List.nil_append, List.drop_succ_cons, List.drop_zero, List.drop_nil, List.take_succ_cons, List.take_zero, List.headD_cons, Nat.reduceLeDiff, true_and, and_true, eq_self, Nat.le_refl, Nat.reduceLT, List.getD_cons_zero, List.getD_cons_succ, Int.reduceToNat, UInt8.reduceToNat, Nat.reduceMul, Nat.reduceAdd, Nat.reduceSub, Int.reduceLT, Int.reduceLE, Int.reduceAdd, Int.reduceSub, Int.reduceMul, Int.reduceEq, Int.reduceNe, Int.reduceNeg, Int.reduceTDiv, Int.reduceTMod, decide_true, decide_false, Nat.zero_add, Nat.mul_one, Int.cast_ofNat_Int, Int.toNat_zero, Bool.true_eq_false, Bool.false_eq_true, not_true_eq_false, not_false_eq_true, wrap_i64, ne_eq, Option.map_some, Bool.true_and, Bool.and_true, Bool.false_and, Bool.and_false])
  refine CALL_pure (f11 G s hs) ?_
  unfold singleS at hnone hsome
  cases hq : scanAt s 0 with
  | bad n =>
    rw [hq] at hnone
    simp only [Lx.av]
    (try simp -dsimp -implicitDefEqProofs only [EV1, EV2, EV3, EV4, Nat.reduceEqDiff, ↓reduceIte, List.contains_cons, List.contains_nil, Nat.reduceBEq, Bool.or_false, Bool.false_or, Bool.or_true, Bool.true_or, Bool.not_true, Bool.not_false, reduceCtorEq, List.map_cons, List.map_nil, BEq.rfl, retQ_ret, retQ_normal, RX_nil, RX_tmp, RX_cell, one_nil, one_one, one_two, argEnv_nil, argEnv_cons, Nat.reduceAdd, List.length_cons, List.length_nil, List.cons_append, List.nil_append, List.drop_succ_cons, List.drop_zero, List.drop_nil, List.take_succ_cons, List.take_zero, List.headD_cons, Nat.reduceLeDiff, true_and, and_true, eq_self, Nat.le_refl, Nat.reduceLT, List.getD_cons_zero, List.getD_cons_succ, Int.reduceToNat, UInt8.reduceToNat, Nat.reduceMul, Nat.reduceAdd, Nat.reduceSub, Int.reduceLT, Int.reduceLE, Int.reduceAdd, Int.reduceSub, Int.reduceMul, Int.reduceEq, Int.reduceNe, Int.reduceNeg, Int.reduceTDiv, Int.reduceTMod, decide_true, decide_false, Nat.zero_add, Nat.mul_one, Int.cast_ofNat_Int, Int.toNat_zero, Bool.true_eq_false, Bool.false_eq_true, not_true_eq_false, not_false_eq_true, wrap_i64, ne_eq, Option.map_some, Bool.true_and, Bool.and_true, Bool.false_and, Bool.and_false, splice])
    exact hnone rfl _
  | good l =>
    rw [hq] at hnone hsome
    simp only [Lx.av]
    match l, hnone, hsome with
    | [], hnone, hsome =>
      simp only [rowsT, List.map_nil]
      (try simp -dsimp -implicitDefEqProofs only [EV1, EV2, EV3, EV4, Nat.reduceEqDiff, ↓reduceIte, List.contains_cons, List.contains_nil, Nat.reduceBEq, Bool.or_false, Bool.false_or, Bool.or_true, Bool.true_or, Bool.not_true, Bool.not_false, reduceCtorEq, List.map_cons, List.map_nil, BEq.rfl, retQ_ret, retQ_normal, RX_nil, RX_tmp, RX_cell, one_nil, one_one, one_two, argEnv_nil, argEnv_cons, Nat.reduceAdd, List.length_cons, List.length_nil, List.cons_append, List.nil_append, List.drop_succ_cons, List.drop_zero, List.drop_nil, List.take_succ_cons, List.take_zero, List.headD_cons, Nat.reduceLeDiff, true_and, and_true, eq_self, Nat.le_refl, Nat.reduceLT, List.getD_cons_zero, List.getD_cons_succ, Int.reduceToNat, UInt8.reduceToNat, Nat.reduceMul, Nat.reduceAdd, Nat.reduceSub, Int.reduceLT, Int.reduceLE, Int.reduceAdd, Int.reduceSub, Int.reduceMul, Int.reduceEq, Int.reduceNe, Int.reduceNeg, Int.reduceTDiv, Int.reduceTMod, decide_true, decide_false, Nat.zero_add, Nat.mul_one, Int.cast_ofNat_Int, Int.toNat_zero, Bool.true_eq_false, Bool.false_eq_true, not_true_eq_false, not_false_eq_true, wrap_i64, ne_eq, Option.map_some, Bool.true_and, Bool.and_true, Bool.false_and, Bool.and_false, splice])
      exact hnone rfl _
    | [t], hnone, hsome =>
      simp only [rowsT, List.map_cons, List.map_nil]
      (try simp -dsimp -implicitDefEqProofs only [EV1, EV2, EV3, EV4, Nat.reduceEqDiff, ↓reduceIte, List.contains_cons, List.contains_nil, Nat.reduceBEq, Bool.or_false, Bool.false_or, Bool.or_true, Bool.true_or, Bool.not_true, Bool.not_false, reduceCtorEq, List.map_cons, List.map_nil, BEq.rfl, retQ_ret, retQ_normal, RX_nil, RX_tmp, RX_cell, one_nil, one_one, one_two, argEnv_nil, argEnv_cons, Nat.reduceAdd, List.length_cons, List.length_nil, List.cons_append, List.nil_append, List.drop_succ_cons, List.drop_zero, List.drop_nil, List.take_succ_cons, List.take_zero, List.headD_cons, Nat.reduceLeDiff, true_and, and_true, eq_self, Nat.le_refl, Nat.reduceLT, List.getD_cons_zero, List.getD_cons_succ, Int.reduceToNat, UInt8.reduceToNat, Nat.reduceMul, Nat.reduceAdd, Nat.reduceSub, Int.reduceLT, Int.reduceLE, Int.reduceAdd, Int.reduceSub, Int.reduceMul, Int.reduceEq, Int.reduceNe, Int.reduceNeg, Int.reduceTDiv, Int.reduceTMod, decide_true, decide_false, Nat.zero_add, Nat.mul_one, Int.cast_ofNat_Int, Int.toNat_zero, Bool.true_eq_false, Bool.false_eq_true, not_true_eq_false, not_false_eq_true, wrap_i64, ne_eq, Option.map_some, Bool.true_and, Bool.and_true, Bool.false_and, Bool.and_false])
      refine CALL_pure (f49 G s hs) ?_
      (try simp -dsimp -implicitDefEqProofs only [EV1, EV2, EV3, EV4, Nat.reduceEqDiff, ↓reduceIte, List.contains_cons, List.contains_nil, Nat.reduceBEq, Bool.or_false, Bool.false_or, Bool.or_true, Bool.true_or, Bool.not_true, Bool.not_false, reduceCtorEq, List.map_cons, List.map_nil, BEq.rfl, retQ_ret, retQ_normal, RX_nil, RX_tmp, RX_cell, one_nil, one_one, one_two, argEnv_nil, argEnv_cons, Nat.reduceAdd, List.length_cons, List.length_nil, List.cons_append, List.nil_append, List.drop_succ_cons, List.drop_zero, List.drop_nil, List.take_succ_cons, List.take_zero, List.headD_cons, Nat.reduceLeDiff, true_and, and_true, eq_self, Nat.le_refl, Nat.reduceLT, List.getD_cons_zero, List.getD_cons_succ, Int.reduceToNat, UInt8.reduceToNat, Nat.reduceMul, Nat.reduceAdd, Nat.reduceSub, Int.reduceLT, Int.reduceLE, Int.reduceAdd, Int.reduceSub, Int.reduceMul, Int.reduceEq, Int.reduceNe, Int.reduceNeg, Int.reduceTDiv, Int.reduceTMod, decide_true, decide_false, Nat.zero_add, Nat.mul_one, Int.cast_ofNat_Int, Int.toNat_zero, Bool.true_eq_false, Bool.false_eq_true, not_true_eq_false, not_false_eq_true, wrap_i64, ne_eq, Option.map_some, Bool.true_and, Bool.and_true, Bool.false_and, Bool.and_false])
      refine split_case (fun h => ?_) (fun h => ?_)
      · have h : ¬ Lib.trimS s [32, 10] = s := by simpa using h
        (try simp -dsimp -implicitDefEqProofs only [EV1, EV2, EV3, EV4, Nat.reduceEqDiff, ↓reduceIte, List.contains_cons, List.contains_nil, Nat.reduceBEq, Bool.or_false, Bool.false_or, Bool.or_true, Bool.true_or, Bool.not_true, Bool.not_false, reduceCtorEq, List.map_cons, List.map_nil, BEq.rfl, retQ_ret, retQ_normal, RX_nil, RX_tmp, RX_cell, one_nil, one_one, one_two, argEnv_nil, argEnv_cons, Nat.reduceAdd, List.length_cons, List.length_nil, List.cons_append, List.nil_append, List.drop_succ_cons, List.drop_zero, List.drop_nil, List.take_succ_cons, List.take_zero, List.headD_cons, Nat.reduceLeDiff, true_and, and_true, eq_self, Nat.le_refl, Nat.reduceLT, List.getD_cons_zero, List.getD_cons_succ, Int.reduceToNat, UInt8.reduceToNat, Nat.reduceMul, Nat.reduceAdd, Nat.reduceSub, Int.reduceLT, Int.reduceLE, Int.reduceAdd, Int.reduceSub, Int.reduceMul, Int.reduceEq, Int.reduceNe, Int.reduceNeg, Int.reduceTDiv, Int.reduceTMod, decide_true, decide_false, Nat.zero_add, Nat.mul_one, Int.cast_ofNat_Int, Int.toNat_zero, Bool.true_eq_false, Bool.false_eq_true, not_true_eq_false, not_false_eq_true, wrap_i64, ne_eq, Option.map_some, Bool.true_and, Bool.and_true, Bool.false_and, Bool.and_false, splice])
        exact hnone (if_neg h) _
      · have h : Lib.trimS s [32, 10] = s := by simpa using h
        (try simp -dsimp -implicitDefEqProofs only [EV1, EV2, EV3, EV4, Nat.reduceEqDiff, ↓reduceIte, List.contains_cons, List.contains_nil, Nat.reduceBEq, Bool.or_false, Bool.false_or, Bool.or_true, Bool.true_or, Bool.not_true, Bool.not_false, reduceCtorEq, List.map_cons, List.map_nil, BEq.rfl, retQ_ret, retQ_normal, RX_nil, RX_tmp, RX_cell, one_nil, one_one, one_two, argEnv_nil, argEnv_cons, Nat.reduceAdd, List.length_cons, List.length_nil, List.cons_append, List.nil_append, List.drop_succ_cons, List.drop_zero, List.drop_nil, List.take_succ_cons, List.take_zero, List.headD_cons, Nat.reduceLeDiff, true_and, and_true, eq_self, Nat.le_refl, Nat.reduceLT, List.getD_cons_zero, List.getD_cons_succ, Int.reduceToNat, UInt8.reduceToNat, Nat.reduceMul, Nat.reduceAdd, Nat.reduceSub, Int.reduceLT, Int.reduceLE, Int.reduceAdd, Int.reduceSub, Int.reduceMul, Int.reduceEq, Int.reduceNe, Int.reduceNeg, Int.reduceTDiv, Int.reduceTMod, decide_true, decide_false, Nat.zero_add, Nat.mul_one, Int.cast_ofNat_Int, Int.toNat_zero, Bool.true_eq_false, Bool.false_eq_true, not_true_eq_false, not_false_eq_true, wrap_i64, ne_eq, Option.map_some, Bool.true_and, Bool.and_true, Bool.false_and, Bool.and_false, splice, Tok.row])
        exact hsome t (if_pos h) _
    | t1 :: t2 :: r, hnone, hsome =>
      simp only [rowsT, List.map_cons]
      have e : (decide ¬ ((((r.map Tok.row).length + 1 + 1 : Nat) : Int) = 1)) = true := decide_eq_true (by omega)
      (try simp -dsimp -implicitDefEqProofs only [EV1, EV2, EV3, EV4, Nat.reduceEqDiff, ↓reduceIte, List.contains_cons, List.contains_nil, Nat.reduceBEq, Bool.or_false, Bool.false_or, Bool.or_true, Bool.true_or, Bool.not_true, Bool.not_false, reduceCtorEq, List.map_cons, List.map_nil, BEq.rfl, retQ_ret, retQ_normal, RX_nil, RX_tmp, RX_cell, one_nil, one_one, one_two, argEnv_nil, argEnv_cons, Nat.reduceAdd, List.length_cons, List.length_nil, List.cons_append, List.nil_append, List.drop_succ_cons, List.drop_zero, List.drop_nil, List.take_succ_cons, List.take_zero, List.headD_cons, Nat.reduceLeDiff, true_and, and_true, eq_self, Nat.le_refl, Nat.reduceLT, List.getD_cons_zero, List.getD_cons_succ, Int.reduceToNat, UInt8.reduceToNat, Nat.reduceMul, Nat.reduceAdd, Nat.reduceSub, Int.reduceLT, Int.reduceLE, Int.reduceAdd, Int.reduceSub, Int.reduceMul, Int.reduceEq, Int.reduceNe, Int.reduceNeg, Int.reduceTDiv, Int.reduceTMod, decide_true, decide_false, Nat.zero_add, Nat.mul_one, Int.cast_ofNat_Int, Int.toNat_zero, Bool.true_eq_false, Bool.false_eq_true, not_true_eq_false, not_false_eq_true, wrap_i64, ne_eq, Option.map_some, Bool.true_and, Bool.and_true, Bool.false_and, Bool.and_false, splice, e])
      exact hnone rfl _

def kindAV (o : Option Tok) : AV := match o with
  | some t => .int .i64 t.kind
  | none => .int .i64 (-1)
theorem f16 (s : List UInt8) (hs : s.length < 1000000) : Pure G Tryz.prog 16 [.str s] (kindAV (singleS s)) := by
  refine Pure.w c16 fun R hR => ?_
  unfold s16 r16
  (try simp -dsimp -implicitDefEqProofs only [EV1, EV2, EV3, EV4, Nat.reduceEqDiff, ↓reduceIte, List.contains_cons, List.contains_nil, Nat.reduceBEq, Bool.or_false, Bool.false_or, Bool.or_true, Bool.true_or, Bool.not_true, Bool.not_false, reduceCtorEq, List.map_cons, List.map_nil, BEq.rfl, retQ_ret, retQ_normal, RX_nil, RX_tmp, RX_cell, one_nil, one_one, one_two, argEnv_nil, argEnv_cons, Nat.reduceAdd, List.length_cons, List.length_nil, List.cons_append, List.nil_append, List.drop_succ_cons, List.drop_zero, List.drop_nil, List.take_succ_cons, List.take_zero, List.headD_cons, Nat.reduceLeDiff, true_and, and_true, eq_self, Nat.le_refl, Nat.reduceLT, List.getD_cons_zero, List.getD_cons_succ, Int.reduceToNat, UInt8.reduceToNat, Nat.reduceMul, Nat.reduceAdd, Nat.reduceSub, Int.reduceLT, Int.reduceLE, Int.reduceAdd, Int.reduceSub, Int.reduceMul, Int.reduceEq, Int.reduceNe, Int.reduceNeg, Int.reduceTDiv, Int.reduceTMod, decide_true, decide_false, Nat.zero_add, Nat.mul_one, Int.cast_ofNat_Int, Int.toNat_zero, Bool.true_eq_false, Bool.false_eq_true, not_true_eq_false, not_false_eq_true, wrap_i64, ne_eq, Option.map_some, Bool.true_and, Bool.and_true, Bool.false_and, Bool.and_false])
  refine CALL_pure (f34 G s hs) ?_
  cases hq : singleS s with
  | none =>
    rw [hq] at hR
    simp only [singleAV]
    (try simp -dsimp -implicitDefEqProofs only [EV1, EV2, EV3, EV4, Nat.reduceEqDiff, ↓reduceIte, List.contains_cons, List.contains_nil, Nat.reduceBEq, Bool.or_false, Bool.false_or, Bool.or_true, Bool.true_or, Bool.not_true, Bool.not_false, reduceCtorEq, List.map_cons, List.map_nil, BEq.rfl, retQ_ret, retQ_normal, RX_nil, RX_tmp, RX_cell, one_nil, one_one, one_two, argEnv_nil, argEnv_cons, Nat.reduceAdd, List.length_cons, List.length_nil, List.cons_append, List.nil_append, List.drop_succ_cons, List.drop_zero, List.drop_nil, List.take_succ_cons, List.take_zero, List.headD_cons, Nat.reduceLeDiff, true_and, and_true, eq_self, Nat.le_refl, Nat.reduceLT, List.getD_cons_zero, List.getD_cons_succ, Int.reduceToNat, UInt8.reduceToNat, Nat.reduceMul, Nat.reduceAdd, Nat.reduceSub, Int.reduceLT, Int.reduceLE, Int.reduceAdd, Int.reduceSub, Int.reduceMul, Int.reduceEq, Int.reduceNe, Int.reduceNeg, Int.reduceTDiv, Int.reduceTMod, decide_true, decide_false, Nat.zero_add, Nat.mul_one, Int.cast_ofNat_Int, Int.toNat_zero, Bool.true_eq_false, Bool.false_eq_true, not_true_eq_false, not_false_eq_true, wrap_i64, ne_eq, Option.map_some, Bool.true_and, Bool.and_true, Bool.false_and, Bool.and_false])
    intro b hb
    (try simp -dsimp -implicitDefEqProofs only [EV1, EV2, EV3, EV4, Nat.reduceEqDiff, ↓reduceIte, List.contains_cons, List.contains_nil, Nat.reduceBEq, Bool.or_false, Bool.false_or, Bool.or_true, Bool.true_or, Bool.not_true, Bool.not_false, reduceCtorEq, List.map_cons, List.map_nil, BEq.rfl, retQ_ret, retQ_normal, RX_nil, RX_tmp, RX_cell, one_nil, one_one, one_two, argEnv_nil, argEnv_cons, Nat.reduceAdd, List.length_cons, List.length_nil, List.cons_append, List.nil_append, List.drop_succ_cons, List.drop_zero, List.drop_nil, List.take_succ_cons, List.take_zero, List.headD_cons, Nat.reduceLeDiff, true_and, and_true, eq_self, Nat.le_refl, Nat.reduceLT, List.getD_cons_zero, List.getD_cons_succ, Int.reduceToNat, UInt8.reduceToNat, Nat.reduceMul, Nat.reduceAdd, Nat.reduceSub, Int.reduceLT, Int.reduceLE, Int.reduceAdd, Int.reduceSub, Int.reduceMul, Int.reduceEq, Int.reduceNe, Int.reduceNeg, Int.reduceTDiv, Int.reduceTMod, decide_true, decide_false, Nat.zero_add, Nat.mul_one, Int.cast_ofNat_Int, Int.toNat_zero, Bool.true_eq_false, Bool.false_eq_true, not_true_eq_false, not_false_eq_true, wrap_i64, ne_eq, Option.map_some, Bool.true_and, Bool.and_true, Bool.false_and, Bool.and_false, splice])
    exact RET.eq hR rfl
  | some t =>
    rw [hq] at hR
    simp only [singleAV, Tok.row]
    (try simp -dsimp -implicitDefEqProofs only [EV1, EV2, EV3, EV4, Nat.reduceEqDiff, ↓reduceIte, List.contains_cons, List.contains_nil, Nat.reduceBEq, Bool.or_false, Bool.false_or, Bool.or_true, Bool.true_or, Bool.not_true, Bool.not_false, reduceCtorEq, List.map_cons, List.map_nil, BEq.rfl, retQ_ret, retQ_normal, RX_nil, RX_tmp, RX_cell, one_nil, one_one, one_two, argEnv_nil, argEnv_cons, Nat.reduceAdd, List.length_cons, List.length_nil, List.cons_append, List.nil_append, List.drop_succ_cons, List.drop_zero, List.drop_nil, List.take_succ_cons, List.take_zero, List.headD_cons, Nat.reduceLeDiff, true_and, and_true, eq_self, Nat.le_refl, Nat.reduceLT, List.getD_cons_zero, List.getD_cons_succ, Int.reduceToNat, UInt8.reduceToNat, Nat.reduceMul, Nat.reduceAdd, Nat.reduceSub, Int.reduceLT, Int.reduceLE, Int.reduceAdd, Int.reduceSub, Int.reduceMul, Int.reduceEq, Int.reduceNe, Int.reduceNeg, Int.reduceTDiv, Int.reduceTMod, decide_true, decide_false, Nat.zero_add, Nat.mul_one, Int.cast_ofNat_Int, Int.toNat_zero, Bool.true_eq_false, Bool.false_eq_true, not_true_eq_false, not_false_eq_true, wrap_i64, ne_eq, Option.map_some, Bool.true_and, Bool.and_true, Bool.false_and, Bool.and_false])
    intro b hb
    (try simp -dsimp -implicitDefEqProofs only [EV1, EV2, EV3, EV4, Nat.reduceEqDiff, ↓reduceIte, List.contains_cons, List.contains_nil, Nat.reduceBEq, Bool.or_false, Bool.false_or, Bool.or_true, Bool.true_or, Bool.not_true, Bool.not_false, reduceCtorEq, List.map_cons, List.map_nil, BEq.rfl, retQ_ret, retQ_normal, RX_nil, RX_tmp, RX_cell, one_nil, one_one, one_two, argEnv_nil, argEnv_cons, Nat.reduceAdd, List.length_cons, List.length_nil, List.cons_append, List.nil_append, List.drop_succ_cons, List.drop_zero, List.drop_nil, List.take_succ_cons, List.take_zero, List.headD_cons, Nat.reduceLeDiff, true_and, and_true, eq_self, Nat.le_refl, Nat.reduceLT, List.getD_cons_zero, List.getD_cons_succ, Int.reduceToNat, UInt8.reduceToNat, Nat.reduceMul, Nat.reduceAdd, Nat.reduceSub, Int.reduceLT, Int.reduceLE, Int.reduceAdd, Int.reduceSub, Int.reduceMul, Int.reduceEq, Int.reduceNe, Int.reduceNeg, Int.reduceTDiv, Int.reduceTMod, decide_true, decide_false, Nat.zero_add, Nat.mul_one, Int.cast_ofNat_Int, Int.toNat_zero, Bool.true_eq_false, Bool.false_eq_true, not_true_eq_false, not_false_eq_true, wrap_i64, ne_eq, Option.map_some, Bool.true_and, Bool.and_true, Bool.false_and, Bool.and_false, splice])
    exact RET.eq hR rfl

def exS : List UInt8 := [110, 117, 109, 98, 101, 114, 32, 115, 101, 99, 116, 105, 111, 110, 32, 53, 65, 32, 97, 115, 32, 54, 32, 59]
theorem exS_scan : scanAt exS 0 = .good [⟨0, 0, [110, 117, 109, 98, 101, 114]⟩, ⟨0, 7, [115, 101, 99, 116, 105, 111, 110]⟩, ⟨3, 15, [53, 65]⟩, ⟨0, 18, [97, 115]⟩, ⟨2, 21, [54]⟩, ⟨4, 23, [59]⟩] := by
  rw [scan_good exS 0 (by decide) (by decide) (k := 0) (a := 0) (t := [110, 117, 109, 98, 101, 114]) (e := 6) (by kernel_rfl), scan_blank exS 6 (by decide) (by decide),
    scan_good exS 7 (by decide) (by decide) (k := 0) (a := 7) (t := [115, 101, 99, 116, 105, 111, 110]) (e := 14) (by kernel_rfl), scan_blank exS 14 (by decide) (by decide),
    scan_good exS 15 (by decide) (by decide) (k := 3) (a := 15) (t := [53, 65]) (e := 17) (by kernel_rfl), scan_blank exS 17 (by decide) (by decide),
    scan_good exS 18 (by decide) (by decide) (k := 0) (a := 18) (t := [97, 115]) (e := 20) (by kernel_rfl), scan_blank exS 20 (by decide) (by decide),
    scan_good exS 21 (by decide) (by decide) (k := 2) (a := 21) (t := [54]) (e := 22) (by kernel_rfl), scan_blank exS 22 (by decide) (by decide),
    scan_good exS 23 (by decide) (by decide) (k := 4) (a := 23) (t := [59]) (e := 24) (by kernel_rfl), scan_end exS 24 (by decide)]
  rfl
theorem ex5A : singleS [53, 65] = some ⟨3, 0, [53, 65]⟩ := by
  have h : scanAt [53, 65] 0 = .good [⟨3, 0, [53, 65]⟩] := by
    rw [scan_good [53, 65] 0 (by decide) (by decide) (k := 3) (a := 0) (t := [53, 65]) (e := 2) (by kernel_rfl), scan_end [53, 65] 2 (by decide)]
    rfl
  unfold singleS
  rw [h]
  exact if_pos (by decide)

/-- The examples hold. -/
theorem f10 : Pure G Tryz.prog 10 [] (.bool true) := by
  refine Pure.w c10 fun R hR => ?_
  unfold s10 r10
  (try simp -dsimp -implicitDefEqProofs only [EV1, EV2, EV3, EV4, Nat.reduceEqDiff, ↓reduceIte, List.contains_cons, List.contains_nil, Nat.reduceBEq, Bool.or_false, Bool.false_or, Bool.or_true, Bool.true_or, Bool.not_true, Bool.not_false, reduceCtorEq, List.map_cons, List.map_nil, BEq.rfl, retQ_ret, retQ_normal, RX_nil, RX_tmp, RX_cell, one_nil, one_one, one_two, argEnv_nil, argEnv_cons, Nat.reduceAdd, List.length_cons, List.length_nil, List.cons_append, List.nil_append, List.drop_succ_cons, List.drop_zero, List.drop_nil, List.take_succ_cons, List.take_zero, List.headD_cons, Nat.reduceLeDiff, true_and, and_true, eq_self, Nat.le_refl, Nat.reduceLT, List.getD_cons_zero, List.getD_cons_succ, Int.reduceToNat, UInt8.reduceToNat, Nat.reduceMul, Nat.reduceAdd, Nat.reduceSub, Int.reduceLT, Int.reduceLE, Int.reduceAdd, Int.reduceSub, Int.reduceMul, Int.reduceEq, Int.reduceNe, Int.reduceNeg, Int.reduceTDiv, Int.reduceTMod, decide_true, decide_false, Nat.zero_add, Nat.mul_one, Int.cast_ofNat_Int, Int.toNat_zero, Bool.true_eq_false, Bool.false_eq_true, not_true_eq_false, not_false_eq_true, wrap_i64, ne_eq, Option.map_some, Bool.true_and, Bool.and_true, Bool.false_and, Bool.and_false])
  refine CALL_pure (f11 G exS (by decide)) ?_
  rw [exS_scan]
  simp only [Lx.av, rowsT, List.map_cons, List.map_nil, Tok.row]
  have hl : ((exS.length : Nat) : Int) = 24 := rfl
  (try simp -dsimp -implicitDefEqProofs only [EV1, EV2, EV3, EV4, Nat.reduceEqDiff, ↓reduceIte, List.contains_cons, List.contains_nil, Nat.reduceBEq, Bool.or_false, Bool.false_or, Bool.or_true, Bool.true_or, Bool.not_true, Bool.not_false, reduceCtorEq, List.map_cons, List.map_nil, BEq.rfl, retQ_ret, retQ_normal, RX_nil, RX_tmp, RX_cell, one_nil, one_one, one_two, argEnv_nil, argEnv_cons, Nat.reduceAdd, List.length_cons, List.length_nil, List.cons_append, List.nil_append, List.drop_succ_cons, List.drop_zero, List.drop_nil, List.take_succ_cons, List.take_zero, List.headD_cons, Nat.reduceLeDiff, true_and, and_true, eq_self, Nat.le_refl, Nat.reduceLT, List.getD_cons_zero, List.getD_cons_succ, Int.reduceToNat, UInt8.reduceToNat, Nat.reduceMul, Nat.reduceAdd, Nat.reduceSub, Int.reduceLT, Int.reduceLE, Int.reduceAdd, Int.reduceSub, Int.reduceMul, Int.reduceEq, Int.reduceNe, Int.reduceNeg, Int.reduceTDiv, Int.reduceTMod, decide_true, decide_false, Nat.zero_add, Nat.mul_one, Int.cast_ofNat_Int, Int.toNat_zero, Bool.true_eq_false, Bool.false_eq_true, not_true_eq_false, not_false_eq_true, wrap_i64, ne_eq, Option.map_some, Bool.true_and, Bool.and_true, Bool.false_and, Bool.and_false, hl, splice])
  refine CALL_pure (f18 G [97, 34, 98] (by decide)) ?_
  have hq : quoteS [97, 34, 98] = [34, 97, 92, 34, 98, 34] := by decide
  (try simp -dsimp -implicitDefEqProofs only [EV1, EV2, EV3, EV4, Nat.reduceEqDiff, ↓reduceIte, List.contains_cons, List.contains_nil, Nat.reduceBEq, Bool.or_false, Bool.false_or, Bool.or_true, Bool.true_or, Bool.not_true, Bool.not_false, reduceCtorEq, List.map_cons, List.map_nil, BEq.rfl, retQ_ret, retQ_normal, RX_nil, RX_tmp, RX_cell, one_nil, one_one, one_two, argEnv_nil, argEnv_cons, Nat.reduceAdd, List.length_cons, List.length_nil, List.cons_append, List.nil_append, List.drop_succ_cons, List.drop_zero, List.drop_nil, List.take_succ_cons, List.take_zero, List.headD_cons, Nat.reduceLeDiff, true_and, and_true, eq_self, Nat.le_refl, Nat.reduceLT, List.getD_cons_zero, List.getD_cons_succ, Int.reduceToNat, UInt8.reduceToNat, Nat.reduceMul, Nat.reduceAdd, Nat.reduceSub, Int.reduceLT, Int.reduceLE, Int.reduceAdd, Int.reduceSub, Int.reduceMul, Int.reduceEq, Int.reduceNe, Int.reduceNeg, Int.reduceTDiv, Int.reduceTMod, decide_true, decide_false, Nat.zero_add, Nat.mul_one, Int.cast_ofNat_Int, Int.toNat_zero, Bool.true_eq_false, Bool.false_eq_true, not_true_eq_false, not_false_eq_true, wrap_i64, ne_eq, Option.map_some, Bool.true_and, Bool.and_true, Bool.false_and, Bool.and_false, hq])
  refine CALL_pure (f16 G [53, 65] (by decide)) ?_
  rw [ex5A]
  simp only [kindAV]
  (try simp -dsimp -implicitDefEqProofs only [EV1, EV2, EV3, EV4, Nat.reduceEqDiff, ↓reduceIte, List.contains_cons, List.contains_nil, Nat.reduceBEq, Bool.or_false, Bool.false_or, Bool.or_true, Bool.true_or, Bool.not_true, Bool.not_false, reduceCtorEq, List.map_cons, List.map_nil, BEq.rfl, retQ_ret, retQ_normal, RX_nil, RX_tmp, RX_cell, one_nil, one_one, one_two, argEnv_nil, argEnv_cons, Nat.reduceAdd, List.length_cons, List.length_nil, List.cons_append, List.nil_append, List.drop_succ_cons, List.drop_zero, List.drop_nil, List.take_succ_cons, List.take_zero, List.headD_cons, Nat.reduceLeDiff, true_and, and_true, eq_self, Nat.le_refl, Nat.reduceLT, List.getD_cons_zero, List.getD_cons_succ, Int.reduceToNat, UInt8.reduceToNat, Nat.reduceMul, Nat.reduceAdd, Nat.reduceSub, Int.reduceLT, Int.reduceLE, Int.reduceAdd, Int.reduceSub, Int.reduceMul, Int.reduceEq, Int.reduceNe, Int.reduceNeg, Int.reduceTDiv, Int.reduceTMod, decide_true, decide_false, Nat.zero_add, Nat.mul_one, Int.cast_ofNat_Int, Int.toNat_zero, Bool.true_eq_false, Bool.false_eq_true, not_true_eq_false, not_false_eq_true, wrap_i64, ne_eq, Option.map_some, Bool.true_and, Bool.and_true, Bool.false_and, Bool.and_false])
  exact RET.eq hR rfl
end
end Go.Av
