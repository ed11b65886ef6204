/-
  THE LEXER, 11: the program's quoted, next, Scan.
-/
import Derived.Test.YtmghejoigggooaaGreatDoorXTok10
namespace Go.Av
open Go Go.RowKit Go.Proofs
set_option linter.unusedSimpArgs false

def isEsc (c : UInt8) : Bool := c.toNat == 34 || c.toNat == 92

section
variable (G : Glob)

theorem f73 (c : UInt8) : Pure G Tryz.prog 73 [.str [34, 92], .int .i32 c.toNat] (.int .i64 (if isEsc c then (if c.toNat = 34 then 0 else 1) else -1)) := by
  refine Pure.of_calls Tryz.func73 (by kernel_rfl) (by kernel_rfl) fun τ w vs hS hA => ?_
  obtain ⟨u, v, rfl, h1, h2⟩ := vs_two hA
  simp only [Rep] at h1 h2
  subst h1 h2
  refine ⟨.int .i64 (if isEsc c then (if c.toNat = 34 then 0 else 1) else -1), fun _ _ => by simp only [Rep], ?_⟩
  have hlt : c.toNat < 256 := c.toNat_lt
  by_cases h : c.toNat < 128
  · refine (Tryz.strings_IndexRune_ascii ⟨⟨[34, 92]⟩⟩ c.toNat w (by omega) (by omega)).mono ?_
    rintro e w' ⟨rfl, rfl⟩
    refine ⟨?_, Below.refl _ _⟩
    have e0 : (c.toNat : Int).toNat.toUInt8 = c := by simp
    rw [e0]
    congr 2
    have hc : ∀ d : UInt8, (d == c) = decide (c.toNat = d.toNat) := fun d => by
      rw [Bool.eq_iff_iff]; simp; constructor
      · rintro rfl; rfl
      · intro h; exact (UInt8.toNat_inj.1 h).symm
    simp only [Lib.indexByte, hc, isEsc]
    have a1 : (34 : UInt8).toNat = 34 := rfl
    have a2 : (92 : UInt8).toNat = 92 := rfl
    rw [a1, a2]
    by_cases h3 : c.toNat = 34
    · simp [h3]
    · by_cases h4 : c.toNat = 92
      · simp [h4]
      · simp [h3, h4]
  · refine (rune_far c.toNat w (by omega) (by omega)).mono ?_
    rintro e w' ⟨rfl, hB⟩
    refine ⟨?_, hB⟩
    have : isEsc c = false := by
      simp only [isEsc, Bool.or_eq_false_iff, beq_eq_false_iff_ne]; omega
    rw [this]; rfl

theorem f59 (c : UInt8) : Pure G Tryz.prog 59 [.str [34, 92], .int .i32 c.toNat] (.bool (isEsc c)) := by
  refine Pure.w c59 fun R hR => ?_
  unfold s59 r59
  simp -dsimp -implicitDefEqProofs only [EV1, EV2, EV3, EV4, Nat.reduceEqDiff, ↓reduceIte, List.contains_cons, List.contains_nil, Nat.reduceBEq, Bool.or_false, Bool.false_or, Bool.or_true, Bool.true_or, Bool.not_true, Bool.not_false, reduceCtorEq, List.map_cons, List.map_nil, BEq.rfl, retQ_ret, retQ_normal, RX_nil, RX_tmp, RX_cell, one_nil, one_one, one_two, argEnv_nil, argEnv_cons, Nat.reduceAdd, List.length_cons, List.length_nil, List.cons_append, List.nil_append, List.drop_succ_cons, List.drop_zero, List.drop_nil, List.take_succ_cons, List.take_zero, List.headD_cons, Nat.reduceLeDiff, true_and, and_true, eq_self, Nat.le_refl, Nat.reduceLT, List.getD_cons_zero, List.getD_cons_succ]
  refine CALL_pure (f73 G c) ?_
  simp -dsimp -implicitDefEqProofs only [EV1, EV2, EV3, EV4, Nat.reduceEqDiff, ↓reduceIte, List.contains_cons, List.contains_nil, Nat.reduceBEq, Bool.or_false, Bool.false_or, Bool.or_true, Bool.true_or, Bool.not_true, Bool.not_false, reduceCtorEq, List.map_cons, List.map_nil, BEq.rfl, retQ_ret, retQ_normal, RX_nil, RX_tmp, RX_cell, one_nil, one_one, one_two, argEnv_nil, argEnv_cons, Nat.reduceAdd, List.length_cons, List.length_nil, List.cons_append, List.nil_append, List.drop_succ_cons, List.drop_zero, List.drop_nil, List.take_succ_cons, List.take_zero, List.headD_cons, Nat.reduceLeDiff, true_and, and_true, eq_self, Nat.le_refl, Nat.reduceLT, List.getD_cons_zero, List.getD_cons_succ]
  refine RET.eq hR (congrArg AV.bool ?_)
  by_cases h : isEsc c = true
  · rw [h, if_pos rfl]; split <;> rfl
  · have h : isEsc c = false := by simpa using h
    rw [h]; rfl

theorem blank_ix (c : UInt8) : decide (0 ≤ Lib.indexByte [32, 10] c) = isBlank c := by
  have hc : ∀ d : UInt8, (d == c) = decide (c.toNat = d.toNat) := fun d => by
    rw [Bool.eq_iff_iff]; simp; constructor
    · rintro rfl; rfl
    · intro h; exact (UInt8.toNat_inj.1 h).symm
  simp only [Lib.indexByte, hc, isBlank]
  have a1 : (32 : UInt8).toNat = 32 := rfl
  have a2 : (10 : UInt8).toNat = 10 := rfl
  rw [a1, a2]
  by_cases h3 : c.toNat = 32
  · simp [h3]
  · by_cases h4 : c.toNat = 10
    · simp [h4]
    · simp [h3, h4]

theorem f25 (c : UInt8) : Pure G Tryz.prog 25 [.int .u8 c.toNat] (.bool (isBlank c)) := by
  refine Pure.w c25 fun R hR => ?_
  unfold s25 r25
  simp -dsimp -implicitDefEqProofs only [EV1, EV2, EV3, EV4, Nat.reduceEqDiff, ↓reduceIte, List.contains_cons, List.contains_nil, Nat.reduceBEq, Bool.or_false, Bool.false_or, Bool.or_true, Bool.true_or, Bool.not_true, Bool.not_false, reduceCtorEq, List.map_cons, List.map_nil, BEq.rfl, retQ_ret, retQ_normal, RX_nil, RX_tmp, RX_cell, one_nil, one_one, one_two, argEnv_nil, argEnv_cons, Nat.reduceAdd, List.length_cons, List.length_nil, List.cons_append, List.nil_append, List.drop_succ_cons, List.drop_zero, List.drop_nil, List.take_succ_cons, List.take_zero, List.headD_cons, Nat.reduceLeDiff, true_and, and_true, eq_self, Nat.le_refl, Nat.reduceLT, List.getD_cons_zero, List.getD_cons_succ]
  refine CALL_pure (f26 G _ c) ?_
  simp -dsimp -implicitDefEqProofs only [EV1, EV2, EV3, EV4, Nat.reduceEqDiff, ↓reduceIte, List.contains_cons, List.contains_nil, Nat.reduceBEq, Bool.or_false, Bool.false_or, Bool.or_true, Bool.true_or, Bool.not_true, Bool.not_false, reduceCtorEq, List.map_cons, List.map_nil, BEq.rfl, retQ_ret, retQ_normal, RX_nil, RX_tmp, RX_cell, one_nil, one_one, one_two, argEnv_nil, argEnv_cons, Nat.reduceAdd, List.length_cons, List.length_nil, List.cons_append, List.nil_append, List.drop_succ_cons, List.drop_zero, List.drop_nil, List.take_succ_cons, List.take_zero, List.headD_cons, Nat.reduceLeDiff, true_and, and_true, eq_self, Nat.le_refl, Nat.reduceLT, List.getD_cons_zero, List.getD_cons_succ]
  exact RET.eq hR (congrArg AV.bool (blank_ix c))

theorem sign_ix (c : UInt8) : decide (0 ≤ Lib.indexByte [59, 44, 58, 46, 40, 41] c) = isSign c := by
  have hc : ∀ d : UInt8, (d == c) = decide (c.toNat = d.toNat) := fun d => by
    rw [Bool.eq_iff_iff]; simp; constructor
    · rintro rfl; rfl
    · intro h; exact (UInt8.toNat_inj.1 h).symm
  have key : ∀ n : Fin 256, decide (0 ≤ Lib.indexByte [59, 44, 58, 46, 40, 41] (UInt8.ofNat n.val)) = isSign (UInt8.ofNat n.val) := by decide +kernel
  have := key ⟨c.toNat, c.toNat_lt⟩
  simpa using this
end
end Go.Av
