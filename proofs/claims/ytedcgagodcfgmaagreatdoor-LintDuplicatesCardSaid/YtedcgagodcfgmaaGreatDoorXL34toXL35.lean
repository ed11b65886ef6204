/-
  LINT, 34: valid items by the program.
-/
import Derived.Test.YtedcgagodcfgmaaGreatDoorXL31toXL23
section
namespace Go.Av
open Go Go.RowKit Go.Proofs
set_option linter.unusedSimpArgs false
set_option linter.unusedVariables false

theorem rep_v_34 (n : Int) : ∀ τ w v, Rep τ w (.int .i64 n) v → v = intK n := by
  intro τ w v h
  simp only [Rep] at h
  exact h
theorem rep_zr_34 : ∀ τ w, Rep τ w (.agg [.sc .nilFunc, .sc .nilFunc]) (.agg #[.nilFunc, .nilFunc]) := by
  intro τ w
  simp only [Rep, RepL]
  refine ⟨_, rfl, by simp [Value.oneCell'], _, _, rfl, rfl, _, _, rfl, rfl, rfl⟩
theorem told_le_34 {x : Itm} {cs : List AV} (h : AVleL cs x.told.cs) : AVleA [.agg x.cs, .agg cs] [.agg x.cs, .agg x.told.cs] := ⟨AVle.rfl' _, .inr h, trivial⟩

section
variable (G : Glob) (hG : GOk G)
include hG

set_option maxHeartbeats 4000000 in
theorem valid_4 (x : Itm) (q : x.Short1) (hk : x.kind = 4) : Pure G Tryz.prog 30 [.agg x.cs] (.bool x.may) := by
  have hRu := f69 G hG
  have hH := f128 G x
  have eH := Itm.cs_eq { iz with new := x.new }
  simp only [iz, List.map_nil] at eH
  simp only [iz] at hH
  rw [eH] at hH
  have hM := f129 G x q
  have hE := f42 G x q.fit x.told
  have hm1 : mgets (4 : Int) ruleTab = some (.agg [fnv 128, fnv 129]) := by simp [mgets, ruleTab]
  have hi := f70 G (4 : Int)
  rw [show inR (4 : Int) 0 6 = true from by decide] at hi
  refine Pure.w c30 fun R hR => ?_
  unfold s30 r30
  rw [Itm.may_eq] at hR
  unfold Itm.pre at hR
  generalize decide (x = x.told) = e at *
  have hkk : inR x.kind 0 11 = true := by rw [hk]; decide
  have hoo : x.own (Itm.mayOne x.by_) = okRow x.new 0 := by unfold Itm.own; simp [hk]
  rw [hoo, hkk] at hR
  (repeat' (first | (with_reducible (first | refine split_case (fun h => ?_) (fun h => ?_) | refine gd_case (fun h => ?_) (fun h => ?_)) <;> (try simp only [Da, Db, Dc, Dd, De, Df, Dg, Dh] at h)) | (with_reducible refine CALL_pure (f71 G _ q.at_) ?_) | (with_reducible refine CALL_pure (f72 G _ q.for_) ?_) | (with_reducible refine CALL_pure (f73 G _ q.start) ?_) | (with_reducible refine CALL_pure (hH) ?_) | (with_reducible refine CALL_pure (hM) ?_) | (with_reducible refine CALL_pure (hi) ?_) | simp -dsimp -implicitDefEqProofs only [EV1, EV2, EV3, EV4, EV5, seval, ↓reduceIte, reduceCtorEq, eq_self, Option.map_some, decide_true, decide_false, EV6, EV7, hk, hm1, Option.getD_some, Option.isSome_some, fnv, U.cs_fold, hne] | simp -dsimp -implicitDefEqProofs only [EV1, EV2, EV3, EV4, EV5, seval, ↓reduceIte, reduceCtorEq, eq_self, Option.map_some, decide_true, decide_false, EV6, EV7, hk, hm1, Option.getD_some, Option.isSome_some, fnv, U.cs_fold] | (with_reducible intro blk hblk; (try (have hnx := hblk; simp only [EVK] at hnx; first | (have hne := And.intro hnx hne) | (have hne := hnx)))) | (with_reducible refine both_case ?_ ?_) | (with_reducible refine same_case ?_) | (refine CALL_specN [] _ hRu.v (AVleA.rfl' _) (SubN.refl _) (fun r σ' hh hnd => ?_);obtain ⟨bm, rfl, rfl⟩ := hh;(have hne := hnd);(try simp [Store.keys] at hne)) | (refine RAW_lookup mapK_i (l := ruleTab) (k := 4) (z := .agg #[.nilFunc, .nilFunc]) (zv := .agg [.sc .nilFunc, .sc .nilFunc]) (eT := 107) rfl (rep_v_34 _) (by kernel_rfl) (by first | exact sget_hd | (simp [Store.get, *]; done)) (by kernel_rfl) rep_zr_34 ?_) | (refine CALL_pure_le hE (told_le_34 (by rw [Itm.cs_eq]; simp [AVleL, AVle1, Itm.told, Itm.just, iz, hk])) ?_)))
  all_goals (refine RET.eq hR (congrArg AV.bool ?_); clear hR hH eH hM hE hRu hi hm1 hoo hkk q)
  all_goals (try (first
    | exact absurd h (by decide)
    | (simp [*]; done)
    | (simp [*, Bool.and_assoc]; done)
    | (simp_all; done)))

set_option maxHeartbeats 4000000 in
theorem valid_5 (x : Itm) (q : x.Short1) (hk : x.kind = 5) : Pure G Tryz.prog 30 [.agg x.cs] (.bool x.may) := by
  have hRu := f69 G hG
  have hH := f130 G x
  have eH := Itm.cs_eq { iz with label := x.label }
  simp only [iz, List.map_nil] at eH
  simp only [iz] at hH
  rw [eH] at hH
  have hM := f131 G x
  have hE := f42 G x q.fit x.told
  have hm1 : mgets (5 : Int) ruleTab = some (.agg [fnv 130, fnv 131]) := by simp [mgets, ruleTab]
  have hi := f70 G (5 : Int)
  rw [show inR (5 : Int) 0 6 = true from by decide] at hi
  refine Pure.w c30 fun R hR => ?_
  unfold s30 r30
  rw [Itm.may_eq] at hR
  unfold Itm.pre at hR
  generalize decide (x = x.told) = e at *
  have hkk : inR x.kind 0 11 = true := by rw [hk]; decide
  have hoo : x.own (Itm.mayOne x.by_) = labelOk x.label := by unfold Itm.own; simp [hk]
  rw [hoo, hkk] at hR
  (repeat' (first | (with_reducible (first | refine split_case (fun h => ?_) (fun h => ?_) | refine gd_case (fun h => ?_) (fun h => ?_)) <;> (try simp only [Da, Db, Dc, Dd, De, Df, Dg, Dh] at h)) | (with_reducible refine CALL_pure (f71 G _ q.at_) ?_) | (with_reducible refine CALL_pure (f72 G _ q.for_) ?_) | (with_reducible refine CALL_pure (f73 G _ q.start) ?_) | (with_reducible refine CALL_pure (hH) ?_) | (with_reducible refine CALL_pure (hM) ?_) | (with_reducible refine CALL_pure (hi) ?_) | simp -dsimp -implicitDefEqProofs only [EV1, EV2, EV3, EV4, EV5, seval, ↓reduceIte, reduceCtorEq, eq_self, Option.map_some, decide_true, decide_false, EV6, EV7, hk, hm1, Option.getD_some, Option.isSome_some, fnv, U.cs_fold, hne] | simp -dsimp -implicitDefEqProofs only [EV1, EV2, EV3, EV4, EV5, seval, ↓reduceIte, reduceCtorEq, eq_self, Option.map_some, decide_true, decide_false, EV6, EV7, hk, hm1, Option.getD_some, Option.isSome_some, fnv, U.cs_fold] | (with_reducible intro blk hblk; (try (have hnx := hblk; simp only [EVK] at hnx; first | (have hne := And.intro hnx hne) | (have hne := hnx)))) | (with_reducible refine both_case ?_ ?_) | (with_reducible refine same_case ?_) | (refine CALL_specN [] _ hRu.v (AVleA.rfl' _) (SubN.refl _) (fun r σ' hh hnd => ?_);obtain ⟨bm, rfl, rfl⟩ := hh;(have hne := hnd);(try simp [Store.keys] at hne)) | (refine RAW_lookup mapK_i (l := ruleTab) (k := 5) (z := .agg #[.nilFunc, .nilFunc]) (zv := .agg [.sc .nilFunc, .sc .nilFunc]) (eT := 107) rfl (rep_v_34 _) (by kernel_rfl) (by first | exact sget_hd | (simp [Store.get, *]; done)) (by kernel_rfl) rep_zr_34 ?_) | (refine CALL_pure_le hE (told_le_34 (by rw [Itm.cs_eq]; simp [AVleL, AVle1, Itm.told, Itm.just, iz, hk])) ?_)))
  all_goals (refine RET.eq hR (congrArg AV.bool ?_); clear hR hH eH hM hE hRu hi hm1 hoo hkk q)
  all_goals (try (first
    | exact absurd h (by decide)
    | (simp [*]; done)
    | (simp [*, Bool.and_assoc]; done)
    | (simp_all; done)))

set_option maxHeartbeats 4000000 in
theorem valid_6 (x : Itm) (q : x.Short1) (hk : x.kind = 6) : Pure G Tryz.prog 30 [.agg x.cs] (.bool x.may) := by
  have hRu := f69 G hG
  have hH := f133 G x
  have eH := Itm.cs_eq { iz with to_ := x.to_, wh := x.wh }
  simp only [iz, List.map_nil] at eH
  simp only [iz] at hH
  rw [eH] at hH
  have hM := f134 G x q
  have hE := f42 G x q.fit x.told
  have hm1 : mgets (6 : Int) ruleTab = some (.agg [fnv 133, fnv 134]) := by simp [mgets, ruleTab]
  have hi := f70 G (6 : Int)
  rw [show inR (6 : Int) 0 6 = true from by decide] at hi
  refine Pure.w c30 fun R hR => ?_
  unfold s30 r30
  rw [Itm.may_eq] at hR
  unfold Itm.pre at hR
  generalize decide (x = x.told) = e at *
  have hkk : inR x.kind 0 11 = true := by rw [hk]; decide
  have hoo : x.own (Itm.mayOne x.by_) = (inR x.wh 0 3 && addrOk x.to_) := by unfold Itm.own; simp [hk]
  rw [hoo, hkk] at hR
  (repeat' (first | (with_reducible (first | refine split_case (fun h => ?_) (fun h => ?_) | refine gd_case (fun h => ?_) (fun h => ?_)) <;> (try simp only [Da, Db, Dc, Dd, De, Df, Dg, Dh] at h)) | (with_reducible refine CALL_pure (f71 G _ q.at_) ?_) | (with_reducible refine CALL_pure (f72 G _ q.for_) ?_) | (with_reducible refine CALL_pure (f73 G _ q.start) ?_) | (with_reducible refine CALL_pure (hH) ?_) | (with_reducible refine CALL_pure (hM) ?_) | (with_reducible refine CALL_pure (hi) ?_) | simp -dsimp -implicitDefEqProofs only [EV1, EV2, EV3, EV4, EV5, seval, ↓reduceIte, reduceCtorEq, eq_self, Option.map_some, decide_true, decide_false, EV6, EV7, hk, hm1, Option.getD_some, Option.isSome_some, fnv, U.cs_fold, hne] | simp -dsimp -implicitDefEqProofs only [EV1, EV2, EV3, EV4, EV5, seval, ↓reduceIte, reduceCtorEq, eq_self, Option.map_some, decide_true, decide_false, EV6, EV7, hk, hm1, Option.getD_some, Option.isSome_some, fnv, U.cs_fold] | (with_reducible intro blk hblk; (try (have hnx := hblk; simp only [EVK] at hnx; first | (have hne := And.intro hnx hne) | (have hne := hnx)))) | (with_reducible refine both_case ?_ ?_) | (with_reducible refine same_case ?_) | (refine CALL_specN [] _ hRu.v (AVleA.rfl' _) (SubN.refl _) (fun r σ' hh hnd => ?_);obtain ⟨bm, rfl, rfl⟩ := hh;(have hne := hnd);(try simp [Store.keys] at hne)) | (refine RAW_lookup mapK_i (l := ruleTab) (k := 6) (z := .agg #[.nilFunc, .nilFunc]) (zv := .agg [.sc .nilFunc, .sc .nilFunc]) (eT := 107) rfl (rep_v_34 _) (by kernel_rfl) (by first | exact sget_hd | (simp [Store.get, *]; done)) (by kernel_rfl) rep_zr_34 ?_) | (refine CALL_pure_le hE (told_le_34 (by rw [Itm.cs_eq]; simp [AVleL, AVle1, Itm.told, Itm.just, iz, hk])) ?_)))
  all_goals (refine RET.eq hR (congrArg AV.bool ?_); clear hR hH eH hM hE hRu hi hm1 hoo hkk q)
  all_goals (try (first
    | exact absurd h (by decide)
    | (simp [*]; done)
    | (simp [*, Bool.and_assoc]; done)
    | (simp_all; done)))

set_option maxHeartbeats 4000000 in
theorem valid_7 (x : Itm) (q : x.Short1) (hk : x.kind = 7) : Pure G Tryz.prog 30 [.agg x.cs] (.bool x.may) := by
  have hRu := f69 G hG
  have hH := f365 G x
  have eH := Itm.cs_eq { iz with act := x.act, item := x.item, day := x.day }
  simp only [iz, List.map_nil] at eH
  simp only [iz] at hH
  rw [eH] at hH
  have hM := f366 G x
  have hE := f42 G x q.fit x.told
  have hm1 : mgets (7 : Int) ruleTab = some (.agg [fnv 365, fnv 366]) := by simp [mgets, ruleTab]
  have hi := f70 G (7 : Int)
  rw [show inR (7 : Int) 0 6 = false from by decide] at hi
  refine Pure.w c30 fun R hR => ?_
  unfold s30 r30
  rw [Itm.may_eq] at hR
  unfold Itm.pre at hR
  generalize decide (x = x.told) = e at *
  have hkk : inR x.kind 0 11 = true := by rw [hk]; decide
  have hoo : x.own (Itm.mayOne x.by_) = (inR x.act 1 1048576 && (inR x.item (-1) 31 && inR x.day 0 1048576)) := by unfold Itm.own; simp [hk]
  rw [hoo, hkk] at hR
  (repeat' (first | (with_reducible (refine gd_case (fun h => ?_) (fun h => ?_)) <;> (try simp only [Da, Db, Dc, Dd, De, Df, Dg, Dh] at h)) | (with_reducible refine CALL_pure (hH) ?_) | (with_reducible refine CALL_pure (hM) ?_) | (with_reducible refine CALL_pure (hi) ?_) | simp -dsimp -implicitDefEqProofs only [EV1, EV2, EV3, EV4, EV5, seval, ↓reduceIte, reduceCtorEq, eq_self, Option.map_some, decide_true, decide_false, EV6, EV7, hk, hm1, Option.getD_some, Option.isSome_some, fnv, U.cs_fold, hne] | simp -dsimp -implicitDefEqProofs only [EV1, EV2, EV3, EV4, EV5, seval, ↓reduceIte, reduceCtorEq, eq_self, Option.map_some, decide_true, decide_false, EV6, EV7, hk, hm1, Option.getD_some, Option.isSome_some, fnv, U.cs_fold] | (with_reducible intro blk hblk; (try (have hnx := hblk; simp only [EVK] at hnx; first | (have hne := And.intro hnx hne) | (have hne := hnx)))) | (with_reducible refine both_case ?_ ?_) | (with_reducible refine same_case ?_) | (refine CALL_specN [] _ hRu.v (AVleA.rfl' _) (SubN.refl _) (fun r σ' hh hnd => ?_);obtain ⟨bm, rfl, rfl⟩ := hh;(have hne := hnd);(try simp [Store.keys] at hne)) | (refine RAW_lookup mapK_i (l := ruleTab) (k := 7) (z := .agg #[.nilFunc, .nilFunc]) (zv := .agg [.sc .nilFunc, .sc .nilFunc]) (eT := 107) rfl (rep_v_34 _) (by kernel_rfl) (by first | exact sget_hd | (simp [Store.get, *]; done)) (by kernel_rfl) rep_zr_34 ?_) | (refine CALL_pure_le hE (told_le_34 (by rw [Itm.cs_eq]; simp [AVleL, AVle1, Itm.told, Itm.just, iz, hk])) ?_)))
  all_goals (refine RET.eq hR (congrArg AV.bool ?_); clear hR hH eH hM hE hRu hi hm1 hoo hkk q)
  all_goals (try (first
    | exact absurd h (by decide)
    | (simp [*]; done)
    | (simp [*, Bool.and_assoc]; done)
    | (simp_all; done)))
end
end Go.Av
end

section
namespace Go.Av
open Go Go.RowKit Go.Proofs
set_option linter.unusedSimpArgs false
set_option linter.unusedVariables false

theorem rep_v_35 (n : Int) : ∀ τ w v, Rep τ w (.int .i64 n) v → v = intK n := by
  intro τ w v h
  simp only [Rep] at h
  exact h
theorem rep_zr_35 : ∀ τ w, Rep τ w (.agg [.sc .nilFunc, .sc .nilFunc]) (.agg #[.nilFunc, .nilFunc]) := by
  intro τ w
  simp only [Rep, RepL]
  refine ⟨_, rfl, by simp [Value.oneCell'], _, _, rfl, rfl, _, _, rfl, rfl, rfl⟩
theorem told_le_35 {x : Itm} {cs : List AV} (h : AVleL cs x.told.cs) : AVleA [.agg x.cs, .agg cs] [.agg x.cs, .agg x.told.cs] := ⟨AVle.rfl' _, .inr h, trivial⟩

section
variable (G : Glob) (hG : GOk G)
include hG

set_option maxHeartbeats 4000000 in
theorem valid_8 (x : Itm) (q : x.Short1) (hk : x.kind = 8) : Pure G Tryz.prog 30 [.agg x.cs] (.bool x.may) := by
  have hRu := f69 G hG
  have hH := f365 G x
  have eH := Itm.cs_eq { iz with act := x.act, item := x.item, day := x.day }
  simp only [iz, List.map_nil] at eH
  simp only [iz] at hH
  rw [eH] at hH
  have hM := f366 G x
  have hE := f42 G x q.fit x.told
  have hm1 : mgets (8 : Int) ruleTab = some (.agg [fnv 365, fnv 366]) := by simp [mgets, ruleTab]
  have hi := f70 G (8 : Int)
  rw [show inR (8 : Int) 0 6 = false from by decide] at hi
  refine Pure.w c30 fun R hR => ?_
  unfold s30 r30
  rw [Itm.may_eq] at hR
  unfold Itm.pre at hR
  generalize decide (x = x.told) = e at *
  have hkk : inR x.kind 0 11 = true := by rw [hk]; decide
  have hoo : x.own (Itm.mayOne x.by_) = (inR x.act 1 1048576 && (inR x.item (-1) 31 && inR x.day 0 1048576)) := by unfold Itm.own; simp [hk]
  rw [hoo, hkk] at hR
  (repeat' (first | (with_reducible (refine gd_case (fun h => ?_) (fun h => ?_)) <;> (try simp only [Da, Db, Dc, Dd, De, Df, Dg, Dh] at h)) | (with_reducible refine CALL_pure (hH) ?_) | (with_reducible refine CALL_pure (hM) ?_) | (with_reducible refine CALL_pure (hi) ?_) | simp -dsimp -implicitDefEqProofs only [EV1, EV2, EV3, EV4, EV5, seval, ↓reduceIte, reduceCtorEq, eq_self, Option.map_some, decide_true, decide_false, EV6, EV7, hk, hm1, Option.getD_some, Option.isSome_some, fnv, U.cs_fold, hne] | simp -dsimp -implicitDefEqProofs only [EV1, EV2, EV3, EV4, EV5, seval, ↓reduceIte, reduceCtorEq, eq_self, Option.map_some, decide_true, decide_false, EV6, EV7, hk, hm1, Option.getD_some, Option.isSome_some, fnv, U.cs_fold] | (with_reducible intro blk hblk; (try (have hnx := hblk; simp only [EVK] at hnx; first | (have hne := And.intro hnx hne) | (have hne := hnx)))) | (with_reducible refine both_case ?_ ?_) | (with_reducible refine same_case ?_) | (refine CALL_specN [] _ hRu.v (AVleA.rfl' _) (SubN.refl _) (fun r σ' hh hnd => ?_);obtain ⟨bm, rfl, rfl⟩ := hh;(have hne := hnd);(try simp [Store.keys] at hne)) | (refine RAW_lookup mapK_i (l := ruleTab) (k := 8) (z := .agg #[.nilFunc, .nilFunc]) (zv := .agg [.sc .nilFunc, .sc .nilFunc]) (eT := 107) rfl (rep_v_35 _) (by kernel_rfl) (by first | exact sget_hd | (simp [Store.get, *]; done)) (by kernel_rfl) rep_zr_35 ?_) | (refine CALL_pure_le hE (told_le_35 (by rw [Itm.cs_eq]; simp [AVleL, AVle1, Itm.told, Itm.just, iz, hk])) ?_)))
  all_goals (refine RET.eq hR (congrArg AV.bool ?_); clear hR hH eH hM hE hRu hi hm1 hoo hkk q)
  all_goals (try (first
    | exact absurd h (by decide)
    | (simp [*]; done)
    | (simp [*, Bool.and_assoc]; done)
    | (simp_all; done)))

set_option maxHeartbeats 4000000 in
theorem valid_9 (x : Itm) (q : x.Short1) (hk : x.kind = 9) : Pure G Tryz.prog 30 [.agg x.cs] (.bool x.may) := by
  have hRu := f69 G hG
  have hH := f365 G x
  have eH := Itm.cs_eq { iz with act := x.act, item := x.item, day := x.day }
  simp only [iz, List.map_nil] at eH
  simp only [iz] at hH
  rw [eH] at hH
  have hM := f366 G x
  have hE := f42 G x q.fit x.told
  have hm1 : mgets (9 : Int) ruleTab = some (.agg [fnv 365, fnv 366]) := by simp [mgets, ruleTab]
  have hi := f70 G (9 : Int)
  rw [show inR (9 : Int) 0 6 = false from by decide] at hi
  refine Pure.w c30 fun R hR => ?_
  unfold s30 r30
  rw [Itm.may_eq] at hR
  unfold Itm.pre at hR
  generalize decide (x = x.told) = e at *
  have hkk : inR x.kind 0 11 = true := by rw [hk]; decide
  have hoo : x.own (Itm.mayOne x.by_) = (inR x.act 1 1048576 && (inR x.item (-1) 31 && inR x.day 0 1048576)) := by unfold Itm.own; simp [hk]
  rw [hoo, hkk] at hR
  (repeat' (first | (with_reducible (refine gd_case (fun h => ?_) (fun h => ?_)) <;> (try simp only [Da, Db, Dc, Dd, De, Df, Dg, Dh] at h)) | (with_reducible refine CALL_pure (hH) ?_) | (with_reducible refine CALL_pure (hM) ?_) | (with_reducible refine CALL_pure (hi) ?_) | simp -dsimp -implicitDefEqProofs only [EV1, EV2, EV3, EV4, EV5, seval, ↓reduceIte, reduceCtorEq, eq_self, Option.map_some, decide_true, decide_false, EV6, EV7, hk, hm1, Option.getD_some, Option.isSome_some, fnv, U.cs_fold, hne] | simp -dsimp -implicitDefEqProofs only [EV1, EV2, EV3, EV4, EV5, seval, ↓reduceIte, reduceCtorEq, eq_self, Option.map_some, decide_true, decide_false, EV6, EV7, hk, hm1, Option.getD_some, Option.isSome_some, fnv, U.cs_fold] | (with_reducible intro blk hblk; (try (have hnx := hblk; simp only [EVK] at hnx; first | (have hne := And.intro hnx hne) | (have hne := hnx)))) | (with_reducible refine both_case ?_ ?_) | (with_reducible refine same_case ?_) | (refine CALL_specN [] _ hRu.v (AVleA.rfl' _) (SubN.refl _) (fun r σ' hh hnd => ?_);obtain ⟨bm, rfl, rfl⟩ := hh;(have hne := hnd);(try simp [Store.keys] at hne)) | (refine RAW_lookup mapK_i (l := ruleTab) (k := 9) (z := .agg #[.nilFunc, .nilFunc]) (zv := .agg [.sc .nilFunc, .sc .nilFunc]) (eT := 107) rfl (rep_v_35 _) (by kernel_rfl) (by first | exact sget_hd | (simp [Store.get, *]; done)) (by kernel_rfl) rep_zr_35 ?_) | (refine CALL_pure_le hE (told_le_35 (by rw [Itm.cs_eq]; simp [AVleL, AVle1, Itm.told, Itm.just, iz, hk])) ?_)))
  all_goals (refine RET.eq hR (congrArg AV.bool ?_); clear hR hH eH hM hE hRu hi hm1 hoo hkk q)
  all_goals (try (first
    | exact absurd h (by decide)
    | (simp [*]; done)
    | (simp [*, Bool.and_assoc]; done)
    | (simp_all; done)))

set_option maxHeartbeats 4000000 in
theorem valid_10 (x : Itm) (q : x.Short1) (hk : x.kind = 10) : Pure G Tryz.prog 30 [.agg x.cs] (.bool x.may) := by
  have hRu := f69 G hG
  have hH := f135 G x
  have eH := Itm.cs_eq { iz with event := x.event, day := x.day }
  simp only [iz, List.map_nil] at eH
  simp only [iz] at hH
  rw [eH] at hH
  have hM := f136 G x q
  have hE := f42 G x q.fit x.told
  have hm1 : mgets (10 : Int) ruleTab = some (.agg [fnv 135, fnv 136]) := by simp [mgets, ruleTab]
  have hi := f70 G (10 : Int)
  rw [show inR (10 : Int) 0 6 = false from by decide] at hi
  refine Pure.w c30 fun R hR => ?_
  unfold s30 r30
  rw [Itm.may_eq] at hR
  unfold Itm.pre at hR
  generalize decide (x = x.told) = e at *
  have hkk : inR x.kind 0 11 = true := by rw [hk]; decide
  have hoo : x.own (Itm.mayOne x.by_) = (nameOk x.event && inR x.day 0 1048576) := by unfold Itm.own; simp [hk]
  rw [hoo, hkk] at hR
  (repeat' (first | (with_reducible (refine gd_case (fun h => ?_) (fun h => ?_)) <;> (try simp only [Da, Db, Dc, Dd, De, Df, Dg, Dh] at h)) | (with_reducible refine CALL_pure (hH) ?_) | (with_reducible refine CALL_pure (hM) ?_) | (with_reducible refine CALL_pure (hi) ?_) | simp -dsimp -implicitDefEqProofs only [EV1, EV2, EV3, EV4, EV5, seval, ↓reduceIte, reduceCtorEq, eq_self, Option.map_some, decide_true, decide_false, EV6, EV7, hk, hm1, Option.getD_some, Option.isSome_some, fnv, U.cs_fold, hne] | simp -dsimp -implicitDefEqProofs only [EV1, EV2, EV3, EV4, EV5, seval, ↓reduceIte, reduceCtorEq, eq_self, Option.map_some, decide_true, decide_false, EV6, EV7, hk, hm1, Option.getD_some, Option.isSome_some, fnv, U.cs_fold] | (with_reducible intro blk hblk; (try (have hnx := hblk; simp only [EVK] at hnx; first | (have hne := And.intro hnx hne) | (have hne := hnx)))) | (with_reducible refine both_case ?_ ?_) | (with_reducible refine same_case ?_) | (refine CALL_specN [] _ hRu.v (AVleA.rfl' _) (SubN.refl _) (fun r σ' hh hnd => ?_);obtain ⟨bm, rfl, rfl⟩ := hh;(have hne := hnd);(try simp [Store.keys] at hne)) | (refine RAW_lookup mapK_i (l := ruleTab) (k := 10) (z := .agg #[.nilFunc, .nilFunc]) (zv := .agg [.sc .nilFunc, .sc .nilFunc]) (eT := 107) rfl (rep_v_35 _) (by kernel_rfl) (by first | exact sget_hd | (simp [Store.get, *]; done)) (by kernel_rfl) rep_zr_35 ?_) | (refine CALL_pure_le hE (told_le_35 (by rw [Itm.cs_eq]; simp [AVleL, AVle1, Itm.told, Itm.just, iz, hk])) ?_)))
  all_goals (refine RET.eq hR (congrArg AV.bool ?_); clear hR hH eH hM hE hRu hi hm1 hoo hkk q)
  all_goals (try (first
    | exact absurd h (by decide)
    | (simp [*]; done)
    | (simp [*, Bool.and_assoc]; done)
    | (simp_all; done)))

set_option maxHeartbeats 4000000 in
theorem valid_11 (x : Itm) (q : x.Short1) (hy : ∀ y ∈ x.by_, Pure G Tryz.prog 30 [.agg y.cs] (.bool y.may)) (hk : x.kind = 11) : Pure G Tryz.prog 30 [.agg x.cs] (.bool x.may) := by
  have hRu := f69 G hG
  have hH := f138 G x
  have eH := Itm.cs_eq { iz with act := x.act, item := x.item, by_ := x.by_ }
  simp only [iz, List.map_nil] at eH
  simp only [iz] at hH
  rw [eH] at hH
  have hM := f139 G x q hy
  have hE := f42 G x q.fit x.told
  have hm1 : mgets (11 : Int) ruleTab = some (.agg [fnv 138, fnv 139]) := by simp [mgets, ruleTab]
  have hi := f70 G (11 : Int)
  rw [show inR (11 : Int) 0 6 = false from by decide] at hi
  refine Pure.w c30 fun R hR => ?_
  unfold s30 r30
  rw [Itm.may_eq] at hR
  unfold Itm.pre at hR
  generalize decide (x = x.told) = e at *
  have hkk : inR x.kind 0 11 = true := by rw [hk]; decide
  have hoo : x.own (Itm.mayOne x.by_) = (inR x.act 1 1048576 && (inR x.item 0 31 && Itm.mayOne x.by_)) := by unfold Itm.own; simp [hk]
  rw [hoo, hkk] at hR
  (repeat' (first | (with_reducible (refine gd_case (fun h => ?_) (fun h => ?_)) <;> (try simp only [Da, Db, Dc, Dd, De, Df, Dg, Dh] at h)) | (with_reducible refine CALL_pure (hH) ?_) | (with_reducible refine CALL_pure (hM) ?_) | (with_reducible refine CALL_pure (hi) ?_) | simp -dsimp -implicitDefEqProofs only [EV1, EV2, EV3, EV4, EV5, seval, ↓reduceIte, reduceCtorEq, eq_self, Option.map_some, decide_true, decide_false, EV6, EV7, hk, hm1, Option.getD_some, Option.isSome_some, fnv, U.cs_fold, hne] | simp -dsimp -implicitDefEqProofs only [EV1, EV2, EV3, EV4, EV5, seval, ↓reduceIte, reduceCtorEq, eq_self, Option.map_some, decide_true, decide_false, EV6, EV7, hk, hm1, Option.getD_some, Option.isSome_some, fnv, U.cs_fold] | (with_reducible intro blk hblk; (try (have hnx := hblk; simp only [EVK] at hnx; first | (have hne := And.intro hnx hne) | (have hne := hnx)))) | (with_reducible refine both_case ?_ ?_) | (with_reducible refine same_case ?_) | (refine CALL_specN [] _ hRu.v (AVleA.rfl' _) (SubN.refl _) (fun r σ' hh hnd => ?_);obtain ⟨bm, rfl, rfl⟩ := hh;(have hne := hnd);(try simp [Store.keys] at hne)) | (refine RAW_lookup mapK_i (l := ruleTab) (k := 11) (z := .agg #[.nilFunc, .nilFunc]) (zv := .agg [.sc .nilFunc, .sc .nilFunc]) (eT := 107) rfl (rep_v_35 _) (by kernel_rfl) (by first | exact sget_hd | (simp [Store.get, *]; done)) (by kernel_rfl) rep_zr_35 ?_) | (refine CALL_pure_le hE (told_le_35 (by rw [Itm.cs_eq]; simp [AVleL, AVle1, Itm.told, Itm.just, iz, hk])) ?_)))
  all_goals (refine RET.eq hR (congrArg AV.bool ?_); clear hR hH eH hM hE hRu hi hm1 hoo hkk q)
  all_goals (try (first
    | exact absurd h (by decide)
    | (simp [*]; done)
    | (simp [*, Bool.and_assoc]; done)
    | (simp_all; done)))
end
end Go.Av
end
