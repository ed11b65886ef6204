/-
  LINT, 5: lists that are compared, searched.
-/
import Derived.Test.YtedcgagodcfgmaaGreatDoorXL2toXL4
namespace Go.Av
open Go Go.RowKit Go.Proofs
set_option linter.unusedSimpArgs false
set_option linter.unusedVariables false

theorem pair_more {α : Type} [DecidableEq α] {a b : List α} {i : Nat} {x : α} {r : List α} (hok : a.length = b.length ∧ decide (a = b) = decide (x :: r = b.drop i)) (hx : Rest a i x r) :
    ∃ y r', Rest b i y r' ∧ b.drop (i + 1) = r' ∧ decide (a = b) = decide (x :: r = y :: r') := by
  have h1 := hx.lt
  cases hd : b.drop i with
  | nil =>
    have := congrArg List.length hd
    simp at this
    omega
  | cons y r' => exact ⟨y, r', left_cons hd, (left_cons hd).next, by rw [hok.2, hd]⟩

section
variable (G : Glob)

theorem f38 (a b : List (List UInt8)) (ha : a.length < 9000000000000000000) : Pure G Tryz.prog 38 [.lst 1 (a.map srow), .lst 1 (b.map srow)] (.bool (decide (a = b))) := by
  refine Pure.w c38 fun R hR => ?_
  unfold s38 r38
  by_cases hl : a.length = b.length
  · have e0 : decide ((a.length : Int) ≠ (b.length : Int)) = false := by simp [hl]
    (repeat' (first | (with_reducible (refine split_case (fun h => ?_) (fun h => ?_)) <;> (try simp only [Da, Db, Dc, Dd, De, Df, Dg, Dh] at h)) | (with_reducible refine And.intro (by omega) ?_) | simp -dsimp -implicitDefEqProofs only [EV1, EV2, EV3, EV4, EV5, seval, ↓reduceIte, reduceCtorEq, eq_self, Option.map_some, decide_true, decide_false, EV6, EV7, e0, hx.yes, hx.le0, hx.lt', hx.get, hx.row, hw, hy.row, hy.lt'] | simp -dsimp -implicitDefEqProofs only [EV1, EV2, EV3, EV4, EV5, seval, ↓reduceIte, reduceCtorEq, eq_self, Option.map_some, decide_true, decide_false, EV6, EV7, e0, hn] | simp -dsimp -implicitDefEqProofs only [EV1, EV2, EV3, EV4, EV5, seval, ↓reduceIte, reduceCtorEq, eq_self, Option.map_some, decide_true, decide_false, EV6, EV7, e0] | (refine LK_next hx () ?_ (Weak.rfl' _ _)) | (refine W_list (a) (fun i r (c : Unit) => a.length = b.length ∧ decide (a = b) = decide (r = b.drop i)) (fun i c => [(0, .lst 1 (a.map srow)), (1, .lst 1 (b.map srow)), (5, .int .i64 i)]) (fun _ _ => []) () (by ((simp [*]; done))) (Weak.rfl' _ _) (by omega) (fun i x r c hok hx hw => ?_) (fun c hok hn => ?_) <;> (try (obtain ⟨y, r2, hy, hyn, hok⟩ := pair_more hok hx; skip)) )))
    (all_goals (first | (refine RET.eq hR ?_; ((simp_all [hl]; done))) | (simp_all [hl]; done)))
  · have e0 : decide ((a.length : Int) ≠ (b.length : Int)) = true := by simp; omega
    have e1 : decide (a = b) = false := by simp; rintro rfl; exact hl rfl
    rw [e1] at hR
    (repeat' (simp -dsimp -implicitDefEqProofs only [EV1, EV2, EV3, EV4, EV5, seval, ↓reduceIte, reduceCtorEq, eq_self, Option.map_some, decide_true, decide_false, EV6, EV7, e0]))
    (all_goals ((exact RET.eq hR rfl)))
theorem f37 (a b : List Stp) (ha : a.length < 9000000000000000000) : Pure G Tryz.prog 37 [.lst 2 (a.map Stp.cs), .lst 2 (b.map Stp.cs)] (.bool (decide (a = b))) := by
  refine Pure.w c37 fun R hR => ?_
  unfold s37 r37
  by_cases hl : a.length = b.length
  · have e0 : decide ((a.length : Int) ≠ (b.length : Int)) = false := by simp [hl]
    (repeat' (first | (with_reducible (refine split_case (fun h => ?_) (fun h => ?_)) <;> (try simp only [Da, Db, Dc, Dd, De, Df, Dg, Dh] at h)) | (with_reducible refine And.intro (by omega) ?_) | simp -dsimp -implicitDefEqProofs only [EV1, EV2, EV3, EV4, EV5, seval, ↓reduceIte, reduceCtorEq, eq_self, Option.map_some, decide_true, decide_false, EV6, EV7, e0, hx.yes, hx.le0, hx.lt', hx.get, hx.row, hw, hy.row, hy.lt'] | simp -dsimp -implicitDefEqProofs only [EV1, EV2, EV3, EV4, EV5, seval, ↓reduceIte, reduceCtorEq, eq_self, Option.map_some, decide_true, decide_false, EV6, EV7, e0, hn] | simp -dsimp -implicitDefEqProofs only [EV1, EV2, EV3, EV4, EV5, seval, ↓reduceIte, reduceCtorEq, eq_self, Option.map_some, decide_true, decide_false, EV6, EV7, e0] | (refine LK_next hx () ?_ (Weak.rfl' _ _)) | (refine W_list (a) (fun i r (c : Unit) => a.length = b.length ∧ decide (a = b) = decide (r = b.drop i)) (fun i c => [(0, .lst 2 (a.map Stp.cs)), (1, .lst 2 (b.map Stp.cs)), (5, .int .i64 i)]) (fun _ _ => []) () (by ((simp [*]; done))) (Weak.rfl' _ _) (by omega) (fun i x r c hok hx hw => ?_) (fun c hok hn => ?_) <;> (try (obtain ⟨y, r2, hy, hyn, hok⟩ := pair_more hok hx; (cases x; cases y))) )))
    (all_goals (first | (refine RET.eq hR ?_; first | (simp_all [hl]; done) | grind) | (simp_all [hl]; done)))
  · have e0 : decide ((a.length : Int) ≠ (b.length : Int)) = true := by simp; omega
    have e1 : decide (a = b) = false := by simp; rintro rfl; exact hl rfl
    rw [e1] at hR
    (repeat' (simp -dsimp -implicitDefEqProofs only [EV1, EV2, EV3, EV4, EV5, seval, ↓reduceIte, reduceCtorEq, eq_self, Option.map_some, decide_true, decide_false, EV6, EV7, e0]))
    (all_goals ((exact RET.eq hR rfl)))
theorem f63 (a b : List Wd) (ha : a.length < 9000000000000000000) : Pure G Tryz.prog 63 [.lst 4 (a.map Wd.cs), .lst 4 (b.map Wd.cs)] (.bool (decide (a = b))) := by
  refine Pure.w c63 fun R hR => ?_
  unfold s63 r63
  by_cases hl : a.length = b.length
  · have e0 : decide ((a.length : Int) ≠ (b.length : Int)) = false := by simp [hl]
    (repeat' (first | (with_reducible (refine split_case (fun h => ?_) (fun h => ?_)) <;> (try simp only [Da, Db, Dc, Dd, De, Df, Dg, Dh] at h)) | (with_reducible refine And.intro (by omega) ?_) | simp -dsimp -implicitDefEqProofs only [EV1, EV2, EV3, EV4, EV5, seval, ↓reduceIte, reduceCtorEq, eq_self, Option.map_some, decide_true, decide_false, EV6, EV7, e0, hx.yes, hx.le0, hx.lt', hx.get, hx.row, hw, hy.row, hy.lt'] | simp -dsimp -implicitDefEqProofs only [EV1, EV2, EV3, EV4, EV5, seval, ↓reduceIte, reduceCtorEq, eq_self, Option.map_some, decide_true, decide_false, EV6, EV7, e0, hn] | simp -dsimp -implicitDefEqProofs only [EV1, EV2, EV3, EV4, EV5, seval, ↓reduceIte, reduceCtorEq, eq_self, Option.map_some, decide_true, decide_false, EV6, EV7, e0] | (refine LK_next hx () ?_ (Weak.rfl' _ _)) | (refine W_list (a) (fun i r (c : Unit) => a.length = b.length ∧ decide (a = b) = decide (r = b.drop i)) (fun i c => [(0, .lst 4 (a.map Wd.cs)), (1, .lst 4 (b.map Wd.cs)), (5, .int .i64 i)]) (fun _ _ => []) () (by ((simp [*]; done))) (Weak.rfl' _ _) (by omega) (fun i x r c hok hx hw => ?_) (fun c hok hn => ?_) <;> (try (obtain ⟨y, r2, hy, hyn, hok⟩ := pair_more hok hx; (cases x; cases y))) )))
    (all_goals (first | (refine RET.eq hR ?_; first | (simp_all [hl]; done) | grind) | (simp_all [hl]; done)))
  · have e0 : decide ((a.length : Int) ≠ (b.length : Int)) = true := by simp; omega
    have e1 : decide (a = b) = false := by simp; rintro rfl; exact hl rfl
    rw [e1] at hR
    (repeat' (simp -dsimp -implicitDefEqProofs only [EV1, EV2, EV3, EV4, EV5, seval, ↓reduceIte, reduceCtorEq, eq_self, Option.map_some, decide_true, decide_false, EV6, EV7, e0]))
    (all_goals ((exact RET.eq hR rfl)))
theorem f11 (a b : List Fnd) (ha : a.length < 9000000000000000000) : Pure G Tryz.prog 11 [.lst 6 (a.map Fnd.cs), .lst 6 (b.map Fnd.cs)] (.bool (decide (a = b))) := by
  refine Pure.w c11 fun R hR => ?_
  unfold s11 r11
  by_cases hl : a.length = b.length
  · have e0 : decide ((a.length : Int) ≠ (b.length : Int)) = false := by simp [hl]
    (repeat' (first | (with_reducible (refine split_case (fun h => ?_) (fun h => ?_)) <;> (try simp only [Da, Db, Dc, Dd, De, Df, Dg, Dh] at h)) | (with_reducible refine And.intro (by omega) ?_) | simp -dsimp -implicitDefEqProofs only [EV1, EV2, EV3, EV4, EV5, seval, ↓reduceIte, reduceCtorEq, eq_self, Option.map_some, decide_true, decide_false, EV6, EV7, e0, hx.yes, hx.le0, hx.lt', hx.get, hx.row, hw, hy.row, hy.lt'] | simp -dsimp -implicitDefEqProofs only [EV1, EV2, EV3, EV4, EV5, seval, ↓reduceIte, reduceCtorEq, eq_self, Option.map_some, decide_true, decide_false, EV6, EV7, e0, hn] | simp -dsimp -implicitDefEqProofs only [EV1, EV2, EV3, EV4, EV5, seval, ↓reduceIte, reduceCtorEq, eq_self, Option.map_some, decide_true, decide_false, EV6, EV7, e0] | (refine LK_next hx () ?_ (Weak.rfl' _ _)) | (refine W_list (a) (fun i r (c : Unit) => a.length = b.length ∧ decide (a = b) = decide (r = b.drop i)) (fun i c => [(0, .lst 6 (a.map Fnd.cs)), (1, .lst 6 (b.map Fnd.cs)), (5, .int .i64 i)]) (fun _ _ => []) () (by ((simp [*]; done))) (Weak.rfl' _ _) (by omega) (fun i x r c hok hx hw => ?_) (fun c hok hn => ?_) <;> (try (obtain ⟨y, r2, hy, hyn, hok⟩ := pair_more hok hx; (obtain ⟨_, ⟨_, _, _⟩, _, _⟩ := x; obtain ⟨_, ⟨_, _, _⟩, _, _⟩ := y))) )))
    (all_goals (first | (refine RET.eq hR ?_; first | (simp_all [hl]; done) | grind) | (simp_all [hl]; done)))
  · have e0 : decide ((a.length : Int) ≠ (b.length : Int)) = true := by simp; omega
    have e1 : decide (a = b) = false := by simp; rintro rfl; exact hl rfl
    rw [e1] at hR
    (repeat' (simp -dsimp -implicitDefEqProofs only [EV1, EV2, EV3, EV4, EV5, seval, ↓reduceIte, reduceCtorEq, eq_self, Option.map_some, decide_true, decide_false, EV6, EV7, e0]))
    (all_goals ((exact RET.eq hR rfl)))
theorem f91 (a b : List (List UInt8)) (ha : a.length < 9000000000000000000) : Pure G Tryz.prog 91 [.lst 1 (a.map srow), .lst 1 (b.map srow)] (.bool (decide (a = b))) := by
  refine Pure.w c91 fun R hR => ?_
  unfold s91 r91
  by_cases hl : a.length = b.length
  · have e0 : decide ((a.length : Int) ≠ (b.length : Int)) = false := by simp [hl]
    (repeat' (first | (with_reducible (refine split_case (fun h => ?_) (fun h => ?_)) <;> (try simp only [Da, Db, Dc, Dd, De, Df, Dg, Dh] at h)) | (with_reducible refine And.intro (by omega) ?_) | simp -dsimp -implicitDefEqProofs only [EV1, EV2, EV3, EV4, EV5, seval, ↓reduceIte, reduceCtorEq, eq_self, Option.map_some, decide_true, decide_false, EV6, EV7, e0, hx.yes, hx.le0, hx.lt', hx.get, hx.row, hw, hy.row, hy.lt'] | simp -dsimp -implicitDefEqProofs only [EV1, EV2, EV3, EV4, EV5, seval, ↓reduceIte, reduceCtorEq, eq_self, Option.map_some, decide_true, decide_false, EV6, EV7, e0, hn] | simp -dsimp -implicitDefEqProofs only [EV1, EV2, EV3, EV4, EV5, seval, ↓reduceIte, reduceCtorEq, eq_self, Option.map_some, decide_true, decide_false, EV6, EV7, e0] | (refine LK_next hx () ?_ (Weak.rfl' _ _)) | (refine W_list (a) (fun i r (c : Unit) => a.length = b.length ∧ decide (a = b) = decide (r = b.drop i)) (fun i c => [(0, .lst 1 (a.map srow)), (1, .lst 1 (b.map srow)), (12, .int .i64 a.length), (13, .int .i64 i)]) (fun _ _ => []) () (by ((simp [*]; done))) (Weak.rfl' _ _) (by omega) (fun i x r c hok hx hw => ?_) (fun c hok hn => ?_) <;> (try (obtain ⟨y, r2, hy, hyn, hok⟩ := pair_more hok hx; skip)) )))
    (all_goals (first | (refine RET.eq hR ?_; ((simp_all [hl]; done))) | (simp_all [hl]; done)))
  · have e0 : decide ((a.length : Int) ≠ (b.length : Int)) = true := by simp; omega
    have e1 : decide (a = b) = false := by simp; rintro rfl; exact hl rfl
    rw [e1] at hR
    (repeat' (simp -dsimp -implicitDefEqProofs only [EV1, EV2, EV3, EV4, EV5, seval, ↓reduceIte, reduceCtorEq, eq_self, Option.map_some, decide_true, decide_false, EV6, EV7, e0]))
    (all_goals ((exact RET.eq hR rfl)))
theorem f82 (a b : List Stp) (ha : a.length < 9000000000000000000) : Pure G Tryz.prog 82 [.lst 2 (a.map Stp.cs), .lst 2 (b.map Stp.cs)] (.bool (decide (a = b))) := by
  refine Pure.w c82 fun R hR => ?_
  unfold s82 r82
  by_cases hl : a.length = b.length
  · have e0 : decide ((a.length : Int) ≠ (b.length : Int)) = false := by simp [hl]
    (repeat' (first | (with_reducible (refine split_case (fun h => ?_) (fun h => ?_)) <;> (try simp only [Da, Db, Dc, Dd, De, Df, Dg, Dh] at h)) | (with_reducible refine And.intro (by omega) ?_) | simp -dsimp -implicitDefEqProofs only [EV1, EV2, EV3, EV4, EV5, seval, ↓reduceIte, reduceCtorEq, eq_self, Option.map_some, decide_true, decide_false, EV6, EV7, e0, hx.yes, hx.le0, hx.lt', hx.get, hx.row, hw, hy.row, hy.lt'] | simp -dsimp -implicitDefEqProofs only [EV1, EV2, EV3, EV4, EV5, seval, ↓reduceIte, reduceCtorEq, eq_self, Option.map_some, decide_true, decide_false, EV6, EV7, e0, hn] | simp -dsimp -implicitDefEqProofs only [EV1, EV2, EV3, EV4, EV5, seval, ↓reduceIte, reduceCtorEq, eq_self, Option.map_some, decide_true, decide_false, EV6, EV7, e0] | (refine LK_next hx () ?_ (Weak.rfl' _ _)) | (refine W_list (a) (fun i r (c : Unit) => a.length = b.length ∧ decide (a = b) = decide (r = b.drop i)) (fun i c => [(0, .lst 2 (a.map Stp.cs)), (1, .lst 2 (b.map Stp.cs)), (12, .int .i64 a.length), (13, .int .i64 i)]) (fun _ _ => []) () (by ((simp [*]; done))) (Weak.rfl' _ _) (by omega) (fun i x r c hok hx hw => ?_) (fun c hok hn => ?_) <;> (try (obtain ⟨y, r2, hy, hyn, hok⟩ := pair_more hok hx; (cases x; cases y))) )))
    (all_goals (first | (refine RET.eq hR ?_; first | (simp_all [hl]; done) | grind) | (simp_all [hl]; done)))
  · have e0 : decide ((a.length : Int) ≠ (b.length : Int)) = true := by simp; omega
    have e1 : decide (a = b) = false := by simp; rintro rfl; exact hl rfl
    rw [e1] at hR
    (repeat' (simp -dsimp -implicitDefEqProofs only [EV1, EV2, EV3, EV4, EV5, seval, ↓reduceIte, reduceCtorEq, eq_self, Option.map_some, decide_true, decide_false, EV6, EV7, e0]))
    (all_goals ((exact RET.eq hR rfl)))
theorem f147 (a b : List Wd) (ha : a.length < 9000000000000000000) : Pure G Tryz.prog 147 [.lst 4 (a.map Wd.cs), .lst 4 (b.map Wd.cs)] (.bool (decide (a = b))) := by
  refine Pure.w c147 fun R hR => ?_
  unfold s147 r147
  by_cases hl : a.length = b.length
  · have e0 : decide ((a.length : Int) ≠ (b.length : Int)) = false := by simp [hl]
    (repeat' (first | (with_reducible (refine split_case (fun h => ?_) (fun h => ?_)) <;> (try simp only [Da, Db, Dc, Dd, De, Df, Dg, Dh] at h)) | (with_reducible refine And.intro (by omega) ?_) | simp -dsimp -implicitDefEqProofs only [EV1, EV2, EV3, EV4, EV5, seval, ↓reduceIte, reduceCtorEq, eq_self, Option.map_some, decide_true, decide_false, EV6, EV7, e0, hx.yes, hx.le0, hx.lt', hx.get, hx.row, hw, hy.row, hy.lt'] | simp -dsimp -implicitDefEqProofs only [EV1, EV2, EV3, EV4, EV5, seval, ↓reduceIte, reduceCtorEq, eq_self, Option.map_some, decide_true, decide_false, EV6, EV7, e0, hn] | simp -dsimp -implicitDefEqProofs only [EV1, EV2, EV3, EV4, EV5, seval, ↓reduceIte, reduceCtorEq, eq_self, Option.map_some, decide_true, decide_false, EV6, EV7, e0] | (refine LK_next hx () ?_ (Weak.rfl' _ _)) | (refine W_list (a) (fun i r (c : Unit) => a.length = b.length ∧ decide (a = b) = decide (r = b.drop i)) (fun i c => [(0, .lst 4 (a.map Wd.cs)), (1, .lst 4 (b.map Wd.cs)), (12, .int .i64 a.length), (13, .int .i64 i)]) (fun _ _ => []) () (by ((simp [*]; done))) (Weak.rfl' _ _) (by omega) (fun i x r c hok hx hw => ?_) (fun c hok hn => ?_) <;> (try (obtain ⟨y, r2, hy, hyn, hok⟩ := pair_more hok hx; (cases x; cases y))) )))
    (all_goals (first | (refine RET.eq hR ?_; first | (simp_all [hl]; done) | grind) | (simp_all [hl]; done)))
  · have e0 : decide ((a.length : Int) ≠ (b.length : Int)) = true := by simp; omega
    have e1 : decide (a = b) = false := by simp; rintro rfl; exact hl rfl
    rw [e1] at hR
    (repeat' (simp -dsimp -implicitDefEqProofs only [EV1, EV2, EV3, EV4, EV5, seval, ↓reduceIte, reduceCtorEq, eq_self, Option.map_some, decide_true, decide_false, EV6, EV7, e0]))
    (all_goals ((exact RET.eq hR rfl)))
end
end Go.Av
