/-
  LINT, 33: valid items by the program.
-/
import Derived.Test.YtedcgagodcfgmaaGreatDoorXL31toXL23
namespace Go.Av
open Go Go.RowKit Go.Proofs
set_option linter.unusedSimpArgs false
set_option linter.unusedVariables false

theorem rep_v_33 (n : Int) : ∀ τ w v, Rep τ w (.int .i64 n) v → v = intK n := by
  intro τ w v h
  simp only [Rep] at h
  exact h
theorem rep_zr_33 : ∀ τ w, Rep τ w (.agg [.sc .nilFunc, .sc .nilFunc]) (.agg #[.nilFunc, .nilFunc]) := by
  intro τ w
  simp only [Rep, RepL]
  refine ⟨_, rfl, by simp [Value.oneCell'], _, _, rfl, rfl, _, _, rfl, rfl, rfl⟩
theorem told_le_33 {x : Itm} {cs : List AV} (h : AVleL cs x.told.cs) : AVleA [.agg x.cs, .agg cs] [.agg x.cs, .agg x.told.cs] := ⟨AVle.rfl' _, .inr h, trivial⟩

section
variable (G : Glob) (hG : GOk G)
include hG

set_option maxHeartbeats 4000000 in
theorem valid_0 (x : Itm) (q : x.Short1) (hk : x.kind = 0) : Pure G Tryz.prog 30 [.agg x.cs] (.bool x.may) := by
  have hRu := f69 G hG
  have hH := f116 G x
  have eH := Itm.cs_eq { iz with wh := x.wh, unit := x.unit }
  simp only [iz, List.map_nil] at eH
  simp only [iz] at hH
  rw [eH] at hH
  have hM := f117 G hG x q.unit
  have hE := f42 G x q.fit x.told
  have hm1 : mgets (0 : Int) ruleTab = some (.agg [fnv 116, fnv 117]) := by simp [mgets, ruleTab]
  have hi := f70 G (0 : Int)
  rw [show inR (0 : Int) 0 6 = true from by decide] at hi
  refine Pure.w c30 fun R hR => ?_
  unfold s30 r30
  rw [Itm.may_eq] at hR
  unfold Itm.pre at hR
  generalize decide (x = x.told) = e at *
  have hkk : inR x.kind 0 11 = true := by rw [hk]; decide
  have hoo : x.own (Itm.mayOne x.by_) = (inR x.wh 0 3 && (bareOk x.unit && (decide (x.unit.kind ≠ 0) && decide ((textOf x.unit).2 = 0)))) := by unfold Itm.own; simp [hk]
  rw [hoo, hkk] at hR
  (repeat' (first | (with_reducible (first | refine split_case (fun h => ?_) (fun h => ?_) | refine gd_case (fun h => ?_) (fun h => ?_)) <;> (try simp only [Da, Db, Dc, Dd, De, Df, Dg, Dh] at h)) | (with_reducible refine CALL_pure (f71 G _ q.at_) ?_) | (with_reducible refine CALL_pure (f72 G _ q.for_) ?_) | (with_reducible refine CALL_pure (f73 G _ q.start) ?_) | (with_reducible refine CALL_pure (hH) ?_) | (with_reducible refine CALL_pure (hM) ?_) | (with_reducible refine CALL_pure (hi) ?_) | simp -dsimp -implicitDefEqProofs only [EV1, EV2, EV3, EV4, EV5, seval, ↓reduceIte, reduceCtorEq, eq_self, Option.map_some, decide_true, decide_false, EV6, EV7, hk, hm1, Option.getD_some, Option.isSome_some, fnv, U.cs_fold, hne] | simp -dsimp -implicitDefEqProofs only [EV1, EV2, EV3, EV4, EV5, seval, ↓reduceIte, reduceCtorEq, eq_self, Option.map_some, decide_true, decide_false, EV6, EV7, hk, hm1, Option.getD_some, Option.isSome_some, fnv, U.cs_fold] | (with_reducible intro blk hblk; (try (have hnx := hblk; simp only [EVK] at hnx; first | (have hne := And.intro hnx hne) | (have hne := hnx)))) | (with_reducible refine both_case ?_ ?_) | (with_reducible refine same_case ?_) | (refine CALL_specN [] _ hRu.v (AVleA.rfl' _) (SubN.refl _) (fun r σ' hh hnd => ?_);obtain ⟨bm, rfl, rfl⟩ := hh;(have hne := hnd);(try simp [Store.keys] at hne)) | (refine RAW_lookup mapK_i (l := ruleTab) (k := 0) (z := .agg #[.nilFunc, .nilFunc]) (zv := .agg [.sc .nilFunc, .sc .nilFunc]) (eT := 107) rfl (rep_v_33 _) (by kernel_rfl) (by first | exact sget_hd | (simp [Store.get, *]; done)) (by kernel_rfl) rep_zr_33 ?_) | (refine CALL_pure_le hE (told_le_33 (by rw [Itm.cs_eq]; simp [AVleL, AVle1, Itm.told, Itm.just, iz, hk])) ?_)))
  all_goals (refine RET.eq hR (congrArg AV.bool ?_); clear hR hH eH hM hE hRu hi hm1 hoo hkk q)
  all_goals (try (first
    | exact absurd h (by decide)
    | (simp [*]; done)
    | (simp [*, Bool.and_assoc]; done)
    | (simp_all; done)))

set_option maxHeartbeats 4000000 in
theorem valid_1 (x : Itm) (q : x.Short1) (hk : x.kind = 1) : Pure G Tryz.prog 30 [.agg x.cs] (.bool x.may) := by
  have hRu := f69 G hG
  have hH := f120 G x
  have eH := Itm.cs_eq iz
  simp only [iz, List.map_nil] at eH
  simp only [iz] at hH
  rw [eH] at hH
  have hM := f121 G x
  have hE := f42 G x q.fit x.told
  have hm1 : mgets (1 : Int) ruleTab = some (.agg [fnv 120, fnv 121]) := by simp [mgets, ruleTab]
  have hi := f70 G (1 : Int)
  rw [show inR (1 : Int) 0 6 = true from by decide] at hi
  refine Pure.w c30 fun R hR => ?_
  unfold s30 r30
  rw [Itm.may_eq] at hR
  unfold Itm.pre at hR
  generalize decide (x = x.told) = e at *
  have hkk : inR x.kind 0 11 = true := by rw [hk]; decide
  have hoo : x.own (Itm.mayOne x.by_) = true := by unfold Itm.own; simp [hk]
  rw [hoo, hkk] at hR
  (repeat' (first | (with_reducible (first | refine split_case (fun h => ?_) (fun h => ?_) | refine gd_case (fun h => ?_) (fun h => ?_)) <;> (try simp only [Da, Db, Dc, Dd, De, Df, Dg, Dh] at h)) | (with_reducible refine CALL_pure (f71 G _ q.at_) ?_) | (with_reducible refine CALL_pure (f72 G _ q.for_) ?_) | (with_reducible refine CALL_pure (f73 G _ q.start) ?_) | (with_reducible refine CALL_pure (hH) ?_) | (with_reducible refine CALL_pure (hM) ?_) | (with_reducible refine CALL_pure (hi) ?_) | simp -dsimp -implicitDefEqProofs only [EV1, EV2, EV3, EV4, EV5, seval, ↓reduceIte, reduceCtorEq, eq_self, Option.map_some, decide_true, decide_false, EV6, EV7, hk, hm1, Option.getD_some, Option.isSome_some, fnv, U.cs_fold, hne] | simp -dsimp -implicitDefEqProofs only [EV1, EV2, EV3, EV4, EV5, seval, ↓reduceIte, reduceCtorEq, eq_self, Option.map_some, decide_true, decide_false, EV6, EV7, hk, hm1, Option.getD_some, Option.isSome_some, fnv, U.cs_fold] | (with_reducible intro blk hblk; (try (have hnx := hblk; simp only [EVK] at hnx; first | (have hne := And.intro hnx hne) | (have hne := hnx)))) | (with_reducible refine both_case ?_ ?_) | (with_reducible refine same_case ?_) | (refine CALL_specN [] _ hRu.v (AVleA.rfl' _) (SubN.refl _) (fun r σ' hh hnd => ?_);obtain ⟨bm, rfl, rfl⟩ := hh;(have hne := hnd);(try simp [Store.keys] at hne)) | (refine RAW_lookup mapK_i (l := ruleTab) (k := 1) (z := .agg #[.nilFunc, .nilFunc]) (zv := .agg [.sc .nilFunc, .sc .nilFunc]) (eT := 107) rfl (rep_v_33 _) (by kernel_rfl) (by first | exact sget_hd | (simp [Store.get, *]; done)) (by kernel_rfl) rep_zr_33 ?_) | (refine CALL_pure_le hE (told_le_33 (by rw [Itm.cs_eq]; simp [AVleL, AVle1, Itm.told, Itm.just, iz, hk])) ?_)))
  all_goals (refine RET.eq hR (congrArg AV.bool ?_); clear hR hH eH hM hE hRu hi hm1 hoo hkk q)
  all_goals (try (first
    | exact absurd h (by decide)
    | (simp [*]; done)
    | (simp [*, Bool.and_assoc]; done)
    | (simp_all; done)))

set_option maxHeartbeats 4000000 in
theorem valid_2 (x : Itm) (q : x.Short1) (hk : x.kind = 2) : Pure G Tryz.prog 30 [.agg x.cs] (.bool x.may) := by
  have hRu := f69 G hG
  have hH := f122 G x
  have eH := Itm.cs_eq { iz with old := x.old, new := x.new, nth := x.nth }
  simp only [iz, List.map_nil] at eH
  simp only [iz] at hH
  rw [eH] at hH
  have hM := f123 G x q
  have hE := f42 G x q.fit x.told
  have hm1 : mgets (2 : Int) ruleTab = some (.agg [fnv 122, fnv 123]) := by simp [mgets, ruleTab]
  have hi := f70 G (2 : Int)
  rw [show inR (2 : Int) 0 6 = true from by decide] at hi
  refine Pure.w c30 fun R hR => ?_
  unfold s30 r30
  rw [Itm.may_eq] at hR
  unfold Itm.pre at hR
  generalize decide (x = x.told) = e at *
  have hkk : inR x.kind 0 11 = true := by rw [hk]; decide
  have hoo : x.own (Itm.mayOne x.by_) = (okRow x.old 1 && (okRow x.new 0 && inR x.nth 0 256)) := by unfold Itm.own; simp [hk]
  rw [hoo, hkk] at hR
  (repeat' (first | (with_reducible (first | refine split_case (fun h => ?_) (fun h => ?_) | refine gd_case (fun h => ?_) (fun h => ?_)) <;> (try simp only [Da, Db, Dc, Dd, De, Df, Dg, Dh] at h)) | (with_reducible refine CALL_pure (f71 G _ q.at_) ?_) | (with_reducible refine CALL_pure (f72 G _ q.for_) ?_) | (with_reducible refine CALL_pure (f73 G _ q.start) ?_) | (with_reducible refine CALL_pure (hH) ?_) | (with_reducible refine CALL_pure (hM) ?_) | (with_reducible refine CALL_pure (hi) ?_) | simp -dsimp -implicitDefEqProofs only [EV1, EV2, EV3, EV4, EV5, seval, ↓reduceIte, reduceCtorEq, eq_self, Option.map_some, decide_true, decide_false, EV6, EV7, hk, hm1, Option.getD_some, Option.isSome_some, fnv, U.cs_fold, hne] | simp -dsimp -implicitDefEqProofs only [EV1, EV2, EV3, EV4, EV5, seval, ↓reduceIte, reduceCtorEq, eq_self, Option.map_some, decide_true, decide_false, EV6, EV7, hk, hm1, Option.getD_some, Option.isSome_some, fnv, U.cs_fold] | (with_reducible intro blk hblk; (try (have hnx := hblk; simp only [EVK] at hnx; first | (have hne := And.intro hnx hne) | (have hne := hnx)))) | (with_reducible refine both_case ?_ ?_) | (with_reducible refine same_case ?_) | (refine CALL_specN [] _ hRu.v (AVleA.rfl' _) (SubN.refl _) (fun r σ' hh hnd => ?_);obtain ⟨bm, rfl, rfl⟩ := hh;(have hne := hnd);(try simp [Store.keys] at hne)) | (refine RAW_lookup mapK_i (l := ruleTab) (k := 2) (z := .agg #[.nilFunc, .nilFunc]) (zv := .agg [.sc .nilFunc, .sc .nilFunc]) (eT := 107) rfl (rep_v_33 _) (by kernel_rfl) (by first | exact sget_hd | (simp [Store.get, *]; done)) (by kernel_rfl) rep_zr_33 ?_) | (refine CALL_pure_le hE (told_le_33 (by rw [Itm.cs_eq]; simp [AVleL, AVle1, Itm.told, Itm.just, iz, hk])) ?_)))
  all_goals (refine RET.eq hR (congrArg AV.bool ?_); clear hR hH eH hM hE hRu hi hm1 hoo hkk q)
  all_goals (try (first
    | exact absurd h (by decide)
    | (simp [*]; done)
    | (simp [*, Bool.and_assoc]; done)
    | (simp_all; done)))

set_option maxHeartbeats 4000000 in
theorem valid_3 (x : Itm) (q : x.Short1) (hk : x.kind = 3) : Pure G Tryz.prog 30 [.agg x.cs] (.bool x.may) := by
  have hRu := f69 G hG
  have hH := f126 G x
  have eH := Itm.cs_eq { iz with old := x.old, new := x.new, nth := x.nth }
  simp only [iz, List.map_nil] at eH
  simp only [iz] at hH
  rw [eH] at hH
  have hM := f127 G x q
  have hE := f42 G x q.fit x.told
  have hm1 : mgets (3 : Int) ruleTab = some (.agg [fnv 126, fnv 127]) := by simp [mgets, ruleTab]
  have hi := f70 G (3 : Int)
  rw [show inR (3 : Int) 0 6 = true from by decide] at hi
  refine Pure.w c30 fun R hR => ?_
  unfold s30 r30
  rw [Itm.may_eq] at hR
  unfold Itm.pre at hR
  generalize decide (x = x.told) = e at *
  have hkk : inR x.kind 0 11 = true := by rw [hk]; decide
  have hoo : x.own (Itm.mayOne x.by_) = (okRow x.old 0 && (okRow x.new 1 && (inR x.nth 0 256 && (decide (0 < (x.old.length : Int)) || decide (x.nth = 0))))) := by unfold Itm.own; simp [hk]
  rw [hoo, hkk] at hR
  (repeat' (first | (with_reducible (first | refine split_case (fun h => ?_) (fun h => ?_) | refine gd_case (fun h => ?_) (fun h => ?_)) <;> (try simp only [Da, Db, Dc, Dd, De, Df, Dg, Dh] at h)) | (with_reducible refine CALL_pure (f71 G _ q.at_) ?_) | (with_reducible refine CALL_pure (f72 G _ q.for_) ?_) | (with_reducible refine CALL_pure (f73 G _ q.start) ?_) | (with_reducible refine CALL_pure (hH) ?_) | (with_reducible refine CALL_pure (hM) ?_) | (with_reducible refine CALL_pure (hi) ?_) | simp -dsimp -implicitDefEqProofs only [EV1, EV2, EV3, EV4, EV5, seval, ↓reduceIte, reduceCtorEq, eq_self, Option.map_some, decide_true, decide_false, EV6, EV7, hk, hm1, Option.getD_some, Option.isSome_some, fnv, U.cs_fold, hne] | simp -dsimp -implicitDefEqProofs only [EV1, EV2, EV3, EV4, EV5, seval, ↓reduceIte, reduceCtorEq, eq_self, Option.map_some, decide_true, decide_false, EV6, EV7, hk, hm1, Option.getD_some, Option.isSome_some, fnv, U.cs_fold] | (with_reducible intro blk hblk; (try (have hnx := hblk; simp only [EVK] at hnx; first | (have hne := And.intro hnx hne) | (have hne := hnx)))) | (with_reducible refine both_case ?_ ?_) | (with_reducible refine same_case ?_) | (refine CALL_specN [] _ hRu.v (AVleA.rfl' _) (SubN.refl _) (fun r σ' hh hnd => ?_);obtain ⟨bm, rfl, rfl⟩ := hh;(have hne := hnd);(try simp [Store.keys] at hne)) | (refine RAW_lookup mapK_i (l := ruleTab) (k := 3) (z := .agg #[.nilFunc, .nilFunc]) (zv := .agg [.sc .nilFunc, .sc .nilFunc]) (eT := 107) rfl (rep_v_33 _) (by kernel_rfl) (by first | exact sget_hd | (simp [Store.get, *]; done)) (by kernel_rfl) rep_zr_33 ?_) | (refine CALL_pure_le hE (told_le_33 (by rw [Itm.cs_eq]; simp [AVleL, AVle1, Itm.told, Itm.just, iz, hk])) ?_)))
  all_goals (refine RET.eq hR (congrArg AV.bool ?_); clear hR hH eH hM hE hRu hi hm1 hoo hkk q)
  all_goals (try (first
    | exact absurd h (by decide)
    | (simp [*]; done)
    | (simp [*, Bool.and_assoc]; done)
    | (simp_all; done)))
end
end Go.Av
