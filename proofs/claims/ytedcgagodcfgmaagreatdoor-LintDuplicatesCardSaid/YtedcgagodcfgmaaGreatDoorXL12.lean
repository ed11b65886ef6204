/-
  LINT, 12: trees compared.
-/
import Derived.Test.YtedcgagodcfgmaaGreatDoorXL11
namespace Go.Av
open Go Go.RowKit Go.Proofs
set_option linter.unusedSimpArgs false
set_option linter.unusedVariables false

theorem idd_dec (a b : Idd) : decide (a = b) = (decide (a.act = b.act) && (decide (a.item = b.item) && decide (a.n = b.n))) := by
  cases a; cases b
  rw [Bool.eq_iff_iff]; simp
theorem U.dec (a b : U) : decide (a = b) = ((decide (a.id.act = b.id.act) && (decide (a.id.item = b.id.item) && decide (a.id.n = b.id.n))) && (decide (a.kind = b.kind) && (decide (a.label = b.label) && (decide (a.head = b.head) && (decide (a.words = b.words) && decide (a.kids = b.kids)))))) := by
  rw [← idd_dec]
  cases a; cases b
  rw [Bool.eq_iff_iff]; simp
theorem dec_len {α : Type} [DecidableEq α] {a b : List α} (h : a.length ≠ b.length) : decide (a = b) = false := by
  simp; rintro rfl; exact h rfl
theorem U.fit.kid {u k : U} (h : u.fit) (hk : k ∈ u.kids) : k.fit := ((U.fit_eq u).1 h).2.2.2.2 k hk

section
variable (G : Glob)

theorem f24 : ∀ (a : U), a.fit → ∀ b : U, Pure G Tryz.prog 24 [.agg a.cs, .agg b.cs] (.bool (decide (a = b))) := by
  refine U.ind fun a ih hfit b => ?_
  have hf := (U.fit_eq a).1 hfit
  have hkl := hf.2.2.2.1
  refine Pure.w c24 fun R hR => ?_
  unfold s24 r24
  rw [U.dec] at hR
  by_cases hl : a.kids.length = b.kids.length
  · have e0 : decide ((a.kids.length : Int) ≠ (b.kids.length : Int)) = false := by simp [hl]
    (repeat' (first | (with_reducible (first | refine split_case (fun h => ?_) (fun h => ?_) | refine gd_case (fun h => ?_) (fun h => ?_)) <;> (try simp only [Da, Db, Dc, Dd, De, Df, Dg, Dh] at h)) | (with_reducible refine And.intro (by omega) ?_) | (with_reducible refine CALL_pure (f63 G _ _ (by omega)) ?_) | (with_reducible refine CALL_pure (ih x hx.mem (hfit.kid hx.mem) y) ?_) | simp -dsimp -implicitDefEqProofs only [EV1, EV2, EV3, EV4, EV5, seval, ↓reduceIte, reduceCtorEq, eq_self, Option.map_some, decide_true, decide_false, EV6, EV7, e0, hx.yes, hx.le0, hx.lt', hx.get, hx.row, hw, hy.row, hy.lt'] | simp -dsimp -implicitDefEqProofs only [EV1, EV2, EV3, EV4, EV5, seval, ↓reduceIte, reduceCtorEq, eq_self, Option.map_some, decide_true, decide_false, EV6, EV7, e0, hn] | simp -dsimp -implicitDefEqProofs only [EV1, EV2, EV3, EV4, EV5, seval, ↓reduceIte, reduceCtorEq, eq_self, Option.map_some, decide_true, decide_false, EV6, EV7, e0] | (with_reducible refine both_case ?_ ?_) | (with_reducible refine same_case ?_) | (refine LK_next hx () ?_ (Weak.rfl' _ _)) | (refine W_list (a.kids) (fun i r (c : Unit) => a.kids.length = b.kids.length ∧ decide (a.kids = b.kids) = decide (r = b.kids.drop i)) (fun i c => [(2, .ref a.cs), (3, .ref b.cs), (5, .int .i64 i)]) (fun _ _ => []) () (by ((simp [*]; done))) (Weak.rfl' _ _) (by omega) (fun i x r c hok hx hw => ?_) (fun c hok hn => ?_) <;> (try (obtain ⟨y, r2, hy, hyn, hok⟩ := pair_more hok hx)) )))
    (all_goals (first | (refine RET.eq hR ?_; (refine congrArg AV.bool (Bool.eq_iff_iff.2 ?_); simp only [hl, EVB] at *; omega)) | (refine RET.eq hR ?_; ((simp_all [hl]; done))) | (simp_all [hl]; done)))
  · have e0 : decide ((a.kids.length : Int) ≠ (b.kids.length : Int)) = true := by simp; omega
    rw [dec_len hl] at hR
    (repeat' (first | (with_reducible (refine gd_case (fun h => ?_) (fun h => ?_)) <;> (try simp only [Da, Db, Dc, Dd, De, Df, Dg, Dh] at h)) | (with_reducible refine CALL_pure (f63 G _ _ (by omega)) ?_) | simp -dsimp -implicitDefEqProofs only [EV1, EV2, EV3, EV4, EV5, seval, ↓reduceIte, reduceCtorEq, eq_self, Option.map_some, decide_true, decide_false, EV6, EV7, e0]))
    (all_goals (first | (refine RET.eq hR ?_; (refine congrArg AV.bool (Bool.eq_iff_iff.2 ?_); simp only [EVB] at *; omega)) | (refine RET.eq hR ?_; ((simp_all []; done)))))

theorem f148 (f : Value) (a b : List U) (ha : a.length < 9000000000000000000) (hf : ∀ x ∈ a, ∀ y, VPure G Tryz.prog f [.agg x.cs, .agg y.cs] (.bool (decide (x = y)))) :
    Pure G Tryz.prog 148 [.lst 8 (a.map U.cs), .lst 8 (b.map U.cs), .sc f] (.bool (decide (a = b))) := by
  refine Pure.w c148 fun R hR => ?_
  unfold s148 r148
  by_cases hl : a.length = b.length
  · have e0 : decide ((a.length : Int) ≠ (b.length : Int)) = false := by simp [hl]
    (repeat' (first | (with_reducible (refine split_case (fun h => ?_) (fun h => ?_)) <;> (try simp only [Da, Db, Dc, Dd, De, Df, Dg, Dh] at h)) | (with_reducible refine And.intro (by omega) ?_) | simp -dsimp -implicitDefEqProofs only [EV1, EV2, EV3, EV4, EV5, seval, ↓reduceIte, reduceCtorEq, eq_self, Option.map_some, decide_true, decide_false, EV6, EV7, e0, hx.yes, hx.le0, hx.lt', hx.get, hx.row, hw, hy.row, hy.lt', hne] | simp -dsimp -implicitDefEqProofs only [EV1, EV2, EV3, EV4, EV5, seval, ↓reduceIte, reduceCtorEq, eq_self, Option.map_some, decide_true, decide_false, EV6, EV7, e0, hx.yes, hx.le0, hx.lt', hx.get, hx.row, hw, hy.row, hy.lt'] | simp -dsimp -implicitDefEqProofs only [EV1, EV2, EV3, EV4, EV5, seval, ↓reduceIte, reduceCtorEq, eq_self, Option.map_some, decide_true, decide_false, EV6, EV7, e0, hn] | simp -dsimp -implicitDefEqProofs only [EV1, EV2, EV3, EV4, EV5, seval, ↓reduceIte, reduceCtorEq, eq_self, Option.map_some, decide_true, decide_false, EV6, EV7, e0] | (with_reducible intro blk hblk; (try (have hnx := hblk; simp only [EVK] at hnx; first | (have hne := And.intro hnx hne) | (have hne := hnx)))) | (refine LK_next hx () ?_ (Weak.sub (SubN.nil _))) | (refine CALL_vpure (hf _ hx.mem y) ?_) | (refine W_list (a) (fun i r (c : Unit) => a.length = b.length ∧ decide (a = b) = decide (r = b.drop i)) (fun i c => [(1, .lst 8 (b.map U.cs)), (2, .sc f), (15, .lst 8 (a.map U.cs)), (16, .int .i64 a.length), (17, .int .i64 i)]) (fun _ _ => []) () (by ((simp [*]; done))) (Weak.rfl' _ _) (by omega) (fun i x r c hok hx hw => ?_) (fun c hok hn => ?_) <;> (try (obtain ⟨y, r2, hy, hyn, hok⟩ := pair_more hok hx)) )))
    (all_goals (first | (refine RET.eq hR ?_; ((simp_all [hl]; done))) | (simp_all [hl]; done)))
  · have e0 : decide ((a.length : Int) ≠ (b.length : Int)) = true := by simp; omega
    rw [dec_len hl] at hR
    (repeat' (simp -dsimp -implicitDefEqProofs only [EV1, EV2, EV3, EV4, EV5, seval, ↓reduceIte, reduceCtorEq, eq_self, Option.map_some, decide_true, decide_false, EV6, EV7, e0]))
    (all_goals ((exact RET.eq hR rfl)))

theorem f92 : ∀ (a : U), a.fit → ∀ b : U, Pure G Tryz.prog 92 [.agg a.cs, .agg b.cs] (.bool (decide (a = b))) := by
  refine U.ind fun a ih hfit b => ?_
  have hf := (U.fit_eq a).1 hfit
  have hkl := hf.2.2.2.1
  refine Pure.w c92 fun R hR => ?_
  unfold s92 r92
  rw [U.dec] at hR
  (repeat' (first | (with_reducible (refine gd_case (fun h => ?_) (fun h => ?_)) <;> (try simp only [Da, Db, Dc, Dd, De, Df, Dg, Dh] at h)) | (with_reducible refine CALL_pure (f147 G _ _ (by omega)) ?_) | (with_reducible refine CALL_pure (f148 G _ _ _ (by omega) (fun x hx y => (ih x hx (hfit.kid hx) y).v)) ?_) | simp -dsimp -implicitDefEqProofs only [EV1, EV2, EV3, EV4, EV5, seval, ↓reduceIte, reduceCtorEq, eq_self, Option.map_some, decide_true, decide_false, EV6, EV7]))
  (all_goals (first | (refine RET.eq hR ?_; (refine congrArg AV.bool (Bool.eq_iff_iff.2 ?_); simp only [EVB] at *; omega)) | (refine RET.eq hR ?_; ((simp_all []; done)))))
end
end Go.Av
