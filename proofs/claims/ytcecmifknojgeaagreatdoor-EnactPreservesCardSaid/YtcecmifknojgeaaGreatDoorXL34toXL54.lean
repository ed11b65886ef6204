/-
  LINT, 34: valid items by the program.
-/
import Derived.Test.YtcecmifknojgeaaGreatDoorXL31toXL33
import Derived.Test.YtcecmifknojgeaaGreatDoorXE6toXE9
import Derived.Test.YtcecmifknojgeaaGreatDoorXP1toXE11
import Derived.Test.YtcecmifknojgeaaGreatDoorXM1toXAv28
import Derived.Lib.ItoaLen
section
namespace Go.Av
open Go Go.RowKit Go.Proofs
set_option linter.unusedSimpArgs false
set_option linter.unusedVariables false

theorem rep_v_34 (n : Int) : ∀ τ w v, Rep τ w (.int .i64 n) v → v = intK n := by
  intro τ w v h
  simp only [Rep] at h
  exact h
theorem rep_zr_34 : ∀ τ w, Rep τ w (.agg [.sc .nilFunc, .sc .nilFunc]) (.agg #[.nilFunc, .nilFunc]) := by
  intro τ w
  simp only [Rep, RepL]
  refine ⟨_, rfl, by simp [Value.oneCell'], _, _, rfl, rfl, _, _, rfl, rfl, rfl⟩
theorem told_le_34 {x : Itm} {cs : List AV} (h : AVleL cs x.told.cs) : AVleA [.agg x.cs, .agg cs] [.agg x.cs, .agg x.told.cs] := ⟨AVle.rfl' _, .inr h, trivial⟩

section
variable (G : Glob) (hG : GOk G)
include hG

set_option maxHeartbeats 4000000 in
theorem valid_4 (x : Itm) (q : x.Short1) (hk : x.kind = 4) : Pure G Tryz.prog 38 [.agg x.cs] (.bool x.may) := by
  have hRu := f66 G hG
  have hH := f119 G x
  have eH := Itm.cs_eq { iz with new := x.new }
  simp only [iz, List.map_nil] at eH
  simp only [iz] at hH
  rw [eH] at hH
  have hM := f120 G x q
  have hE := f70 G x q.fit x.told
  have hm1 : mgets (4 : Int) ruleTab = some (.agg [fnv 119, fnv 120]) := by simp [mgets, ruleTab]
  have hi := f41 G (4 : Int)
  rw [show inR (4 : Int) 0 6 = true from by decide] at hi
  refine Pure.w c38 fun R hR => ?_
  unfold s38 r38
  rw [Itm.may_eq] at hR
  unfold Itm.pre at hR
  generalize decide (x = x.told) = e at *
  have hkk : inR x.kind 0 11 = true := by rw [hk]; decide
  have hoo : x.own (Itm.mayOne x.by_) = okRow x.new 0 := by unfold Itm.own; simp [hk]
  rw [hoo, hkk] at hR
  (repeat' (first | (with_reducible (first | refine split_case (fun h => ?_) (fun h => ?_) | refine gd_case (fun h => ?_) (fun h => ?_)) <;> (try simp only [Da, Db, Dc, Dw, De, Df, Dg, Dh] at h)) | (with_reducible refine CALL_pure (f67 G _ q.at_) ?_) | (with_reducible refine CALL_pure (f68 G _ q.for_) ?_) | (with_reducible refine CALL_pure (f69 G _ q.start) ?_) | (with_reducible refine CALL_pure (hH) ?_) | (with_reducible refine CALL_pure (hM) ?_) | (with_reducible refine CALL_pure (hi) ?_) | simp -dsimp -implicitDefEqProofs only [EVz, seval, ↓reduceIte, reduceCtorEq, EV6, EV7, hk, hm1, Option.getD_some, Option.isSome_some, fnv, U.cs_fold, hne] | simp -dsimp -implicitDefEqProofs only [EVz, seval, ↓reduceIte, reduceCtorEq, EV6, EV7, hk, hm1, Option.getD_some, Option.isSome_some, fnv, U.cs_fold] | (with_reducible intro blk hblk; (try (have hnx := hblk; simp only [EVK] at hnx; first | (have hne := And.intro hnx hne) | (have hne := hnx)))) | (with_reducible refine both_case ?_ ?_) | (with_reducible refine same_case ?_) | (refine CALL_specN [] _ hRu.v (AVleA.rfl' _) (SubN.refl _) (fun r σ' hh hnd => ?_);obtain ⟨bm, rfl, rfl⟩ := hh;(have hne := hnd);(try simp [Store.keys] at hne)) | (refine RAW_lookup mapK_i (l := ruleTab) (k := 4) (z := .agg #[.nilFunc, .nilFunc]) (zv := .agg [.sc .nilFunc, .sc .nilFunc]) (eT := 107) rfl (rep_v_34 _) (by kernel_rfl) (by first | exact sget_hd | (simp [Store.get, *]; done)) (by kernel_rfl) rep_zr_34 ?_) | (refine CALL_pure_le hE (told_le_34 (by rw [Itm.cs_eq]; simp [AVleL, AVle1, Itm.told, Itm.just, iz, hk])) ?_) | fail))
  all_goals (refine RET.eq hR (congrArg AV.bool ?_); clear hR hH eH hM hE hRu hi hm1 hoo hkk q)
  all_goals (try (first
    | exact absurd h (by decide)
    | (simp [*]; done)
    | (simp [*, Bool.and_assoc]; done)
    | (simp_all; done)))

set_option maxHeartbeats 4000000 in
theorem valid_5 (x : Itm) (q : x.Short1) (hk : x.kind = 5) : Pure G Tryz.prog 38 [.agg x.cs] (.bool x.may) := by
  have hRu := f66 G hG
  have hH := f121 G x
  have eH := Itm.cs_eq { iz with label := x.label }
  simp only [iz, List.map_nil] at eH
  simp only [iz] at hH
  rw [eH] at hH
  have hM := f122 G x
  have hE := f70 G x q.fit x.told
  have hm1 : mgets (5 : Int) ruleTab = some (.agg [fnv 121, fnv 122]) := by simp [mgets, ruleTab]
  have hi := f41 G (5 : Int)
  rw [show inR (5 : Int) 0 6 = true from by decide] at hi
  refine Pure.w c38 fun R hR => ?_
  unfold s38 r38
  rw [Itm.may_eq] at hR
  unfold Itm.pre at hR
  generalize decide (x = x.told) = e at *
  have hkk : inR x.kind 0 11 = true := by rw [hk]; decide
  have hoo : x.own (Itm.mayOne x.by_) = labelOk x.label := by unfold Itm.own; simp [hk]
  rw [hoo, hkk] at hR
  (repeat' (first | (with_reducible (first | refine split_case (fun h => ?_) (fun h => ?_) | refine gd_case (fun h => ?_) (fun h => ?_)) <;> (try simp only [Da, Db, Dc, Dw, De, Df, Dg, Dh] at h)) | (with_reducible refine CALL_pure (f67 G _ q.at_) ?_) | (with_reducible refine CALL_pure (f68 G _ q.for_) ?_) | (with_reducible refine CALL_pure (f69 G _ q.start) ?_) | (with_reducible refine CALL_pure (hH) ?_) | (with_reducible refine CALL_pure (hM) ?_) | (with_reducible refine CALL_pure (hi) ?_) | simp -dsimp -implicitDefEqProofs only [EVz, seval, ↓reduceIte, reduceCtorEq, EV6, EV7, hk, hm1, Option.getD_some, Option.isSome_some, fnv, U.cs_fold, hne] | simp -dsimp -implicitDefEqProofs only [EVz, seval, ↓reduceIte, reduceCtorEq, EV6, EV7, hk, hm1, Option.getD_some, Option.isSome_some, fnv, U.cs_fold] | (with_reducible intro blk hblk; (try (have hnx := hblk; simp only [EVK] at hnx; first | (have hne := And.intro hnx hne) | (have hne := hnx)))) | (with_reducible refine both_case ?_ ?_) | (with_reducible refine same_case ?_) | (refine CALL_specN [] _ hRu.v (AVleA.rfl' _) (SubN.refl _) (fun r σ' hh hnd => ?_);obtain ⟨bm, rfl, rfl⟩ := hh;(have hne := hnd);(try simp [Store.keys] at hne)) | (refine RAW_lookup mapK_i (l := ruleTab) (k := 5) (z := .agg #[.nilFunc, .nilFunc]) (zv := .agg [.sc .nilFunc, .sc .nilFunc]) (eT := 107) rfl (rep_v_34 _) (by kernel_rfl) (by first | exact sget_hd | (simp [Store.get, *]; done)) (by kernel_rfl) rep_zr_34 ?_) | (refine CALL_pure_le hE (told_le_34 (by rw [Itm.cs_eq]; simp [AVleL, AVle1, Itm.told, Itm.just, iz, hk])) ?_) | fail))
  all_goals (refine RET.eq hR (congrArg AV.bool ?_); clear hR hH eH hM hE hRu hi hm1 hoo hkk q)
  all_goals (try (first
    | exact absurd h (by decide)
    | (simp [*]; done)
    | (simp [*, Bool.and_assoc]; done)
    | (simp_all; done)))

set_option maxHeartbeats 4000000 in
theorem valid_6 (x : Itm) (q : x.Short1) (hk : x.kind = 6) : Pure G Tryz.prog 38 [.agg x.cs] (.bool x.may) := by
  have hRu := f66 G hG
  have hH := f123 G x
  have eH := Itm.cs_eq { iz with to_ := x.to_, wh := x.wh }
  simp only [iz, List.map_nil] at eH
  simp only [iz] at hH
  rw [eH] at hH
  have hM := f124 G x q
  have hE := f70 G x q.fit x.told
  have hm1 : mgets (6 : Int) ruleTab = some (.agg [fnv 123, fnv 124]) := by simp [mgets, ruleTab]
  have hi := f41 G (6 : Int)
  rw [show inR (6 : Int) 0 6 = true from by decide] at hi
  refine Pure.w c38 fun R hR => ?_
  unfold s38 r38
  rw [Itm.may_eq] at hR
  unfold Itm.pre at hR
  generalize decide (x = x.told) = e at *
  have hkk : inR x.kind 0 11 = true := by rw [hk]; decide
  have hoo : x.own (Itm.mayOne x.by_) = (inR x.wh 0 3 && addrOk x.to_) := by unfold Itm.own; simp [hk]
  rw [hoo, hkk] at hR
  (repeat' (first | (with_reducible (first | refine split_case (fun h => ?_) (fun h => ?_) | refine gd_case (fun h => ?_) (fun h => ?_)) <;> (try simp only [Da, Db, Dc, Dw, De, Df, Dg, Dh] at h)) | (with_reducible refine CALL_pure (f67 G _ q.at_) ?_) | (with_reducible refine CALL_pure (f68 G _ q.for_) ?_) | (with_reducible refine CALL_pure (f69 G _ q.start) ?_) | (with_reducible refine CALL_pure (hH) ?_) | (with_reducible refine CALL_pure (hM) ?_) | (with_reducible refine CALL_pure (hi) ?_) | simp -dsimp -implicitDefEqProofs only [EVz, seval, ↓reduceIte, reduceCtorEq, EV6, EV7, hk, hm1, Option.getD_some, Option.isSome_some, fnv, U.cs_fold, hne] | simp -dsimp -implicitDefEqProofs only [EVz, seval, ↓reduceIte, reduceCtorEq, EV6, EV7, hk, hm1, Option.getD_some, Option.isSome_some, fnv, U.cs_fold] | (with_reducible intro blk hblk; (try (have hnx := hblk; simp only [EVK] at hnx; first | (have hne := And.intro hnx hne) | (have hne := hnx)))) | (with_reducible refine both_case ?_ ?_) | (with_reducible refine same_case ?_) | (refine CALL_specN [] _ hRu.v (AVleA.rfl' _) (SubN.refl _) (fun r σ' hh hnd => ?_);obtain ⟨bm, rfl, rfl⟩ := hh;(have hne := hnd);(try simp [Store.keys] at hne)) | (refine RAW_lookup mapK_i (l := ruleTab) (k := 6) (z := .agg #[.nilFunc, .nilFunc]) (zv := .agg [.sc .nilFunc, .sc .nilFunc]) (eT := 107) rfl (rep_v_34 _) (by kernel_rfl) (by first | exact sget_hd | (simp [Store.get, *]; done)) (by kernel_rfl) rep_zr_34 ?_) | (refine CALL_pure_le hE (told_le_34 (by rw [Itm.cs_eq]; simp [AVleL, AVle1, Itm.told, Itm.just, iz, hk])) ?_) | fail))
  all_goals (refine RET.eq hR (congrArg AV.bool ?_); clear hR hH eH hM hE hRu hi hm1 hoo hkk q)
  all_goals (try (first
    | exact absurd h (by decide)
    | (simp [*]; done)
    | (simp [*, Bool.and_assoc]; done)
    | (simp_all; done)))

set_option maxHeartbeats 4000000 in
theorem valid_7 (x : Itm) (q : x.Short1) (hk : x.kind = 7) : Pure G Tryz.prog 38 [.agg x.cs] (.bool x.may) := by
  have hRu := f66 G hG
  have hH := f301 G x
  have eH := Itm.cs_eq { iz with act := x.act, item := x.item, day := x.day }
  simp only [iz, List.map_nil] at eH
  simp only [iz] at hH
  rw [eH] at hH
  have hM := f302 G x
  have hE := f70 G x q.fit x.told
  have hm1 : mgets (7 : Int) ruleTab = some (.agg [fnv 301, fnv 302]) := by simp [mgets, ruleTab]
  have hi := f41 G (7 : Int)
  rw [show inR (7 : Int) 0 6 = false from by decide] at hi
  refine Pure.w c38 fun R hR => ?_
  unfold s38 r38
  rw [Itm.may_eq] at hR
  unfold Itm.pre at hR
  generalize decide (x = x.told) = e at *
  have hkk : inR x.kind 0 11 = true := by rw [hk]; decide
  have hoo : x.own (Itm.mayOne x.by_) = (inR x.act 1 1048576 && (inR x.item (-1) 31 && inR x.day 0 1048576)) := by unfold Itm.own; simp [hk]
  rw [hoo, hkk] at hR
  (repeat' (first | (with_reducible (refine gd_case (fun h => ?_) (fun h => ?_)) <;> (try simp only [Da, Db, Dc, Dw, De, Df, Dg, Dh] at h)) | (with_reducible refine CALL_pure (hH) ?_) | (with_reducible refine CALL_pure (hM) ?_) | (with_reducible refine CALL_pure (hi) ?_) | simp -dsimp -implicitDefEqProofs only [EVz, seval, ↓reduceIte, reduceCtorEq, EV6, EV7, hk, hm1, Option.getD_some, Option.isSome_some, fnv, U.cs_fold, hne] | simp -dsimp -implicitDefEqProofs only [EVz, seval, ↓reduceIte, reduceCtorEq, EV6, EV7, hk, hm1, Option.getD_some, Option.isSome_some, fnv, U.cs_fold] | (with_reducible intro blk hblk; (try (have hnx := hblk; simp only [EVK] at hnx; first | (have hne := And.intro hnx hne) | (have hne := hnx)))) | (with_reducible refine both_case ?_ ?_) | (with_reducible refine same_case ?_) | (refine CALL_specN [] _ hRu.v (AVleA.rfl' _) (SubN.refl _) (fun r σ' hh hnd => ?_);obtain ⟨bm, rfl, rfl⟩ := hh;(have hne := hnd);(try simp [Store.keys] at hne)) | (refine RAW_lookup mapK_i (l := ruleTab) (k := 7) (z := .agg #[.nilFunc, .nilFunc]) (zv := .agg [.sc .nilFunc, .sc .nilFunc]) (eT := 107) rfl (rep_v_34 _) (by kernel_rfl) (by first | exact sget_hd | (simp [Store.get, *]; done)) (by kernel_rfl) rep_zr_34 ?_) | (refine CALL_pure_le hE (told_le_34 (by rw [Itm.cs_eq]; simp [AVleL, AVle1, Itm.told, Itm.just, iz, hk])) ?_) | fail))
  all_goals (refine RET.eq hR (congrArg AV.bool ?_); clear hR hH eH hM hE hRu hi hm1 hoo hkk q)
  all_goals (try (first
    | exact absurd h (by decide)
    | (simp [*]; done)
    | (simp [*, Bool.and_assoc]; done)
    | (simp_all; done)))
end
end Go.Av
end

section
namespace Go.Av
open Go Go.RowKit Go.Proofs
set_option linter.unusedSimpArgs false
set_option linter.unusedVariables false

theorem rep_v_35 (n : Int) : ∀ τ w v, Rep τ w (.int .i64 n) v → v = intK n := by
  intro τ w v h
  simp only [Rep] at h
  exact h
theorem rep_zr_35 : ∀ τ w, Rep τ w (.agg [.sc .nilFunc, .sc .nilFunc]) (.agg #[.nilFunc, .nilFunc]) := by
  intro τ w
  simp only [Rep, RepL]
  refine ⟨_, rfl, by simp [Value.oneCell'], _, _, rfl, rfl, _, _, rfl, rfl, rfl⟩
theorem told_le_35 {x : Itm} {cs : List AV} (h : AVleL cs x.told.cs) : AVleA [.agg x.cs, .agg cs] [.agg x.cs, .agg x.told.cs] := ⟨AVle.rfl' _, .inr h, trivial⟩

section
variable (G : Glob) (hG : GOk G)
include hG

set_option maxHeartbeats 4000000 in
theorem valid_8 (x : Itm) (q : x.Short1) (hk : x.kind = 8) : Pure G Tryz.prog 38 [.agg x.cs] (.bool x.may) := by
  have hRu := f66 G hG
  have hH := f301 G x
  have eH := Itm.cs_eq { iz with act := x.act, item := x.item, day := x.day }
  simp only [iz, List.map_nil] at eH
  simp only [iz] at hH
  rw [eH] at hH
  have hM := f302 G x
  have hE := f70 G x q.fit x.told
  have hm1 : mgets (8 : Int) ruleTab = some (.agg [fnv 301, fnv 302]) := by simp [mgets, ruleTab]
  have hi := f41 G (8 : Int)
  rw [show inR (8 : Int) 0 6 = false from by decide] at hi
  refine Pure.w c38 fun R hR => ?_
  unfold s38 r38
  rw [Itm.may_eq] at hR
  unfold Itm.pre at hR
  generalize decide (x = x.told) = e at *
  have hkk : inR x.kind 0 11 = true := by rw [hk]; decide
  have hoo : x.own (Itm.mayOne x.by_) = (inR x.act 1 1048576 && (inR x.item (-1) 31 && inR x.day 0 1048576)) := by unfold Itm.own; simp [hk]
  rw [hoo, hkk] at hR
  (repeat' (first | (with_reducible (refine gd_case (fun h => ?_) (fun h => ?_)) <;> (try simp only [Da, Db, Dc, Dw, De, Df, Dg, Dh] at h)) | (with_reducible refine CALL_pure (hH) ?_) | (with_reducible refine CALL_pure (hM) ?_) | (with_reducible refine CALL_pure (hi) ?_) | simp -dsimp -implicitDefEqProofs only [EVz, seval, ↓reduceIte, reduceCtorEq, EV6, EV7, hk, hm1, Option.getD_some, Option.isSome_some, fnv, U.cs_fold, hne] | simp -dsimp -implicitDefEqProofs only [EVz, seval, ↓reduceIte, reduceCtorEq, EV6, EV7, hk, hm1, Option.getD_some, Option.isSome_some, fnv, U.cs_fold] | (with_reducible intro blk hblk; (try (have hnx := hblk; simp only [EVK] at hnx; first | (have hne := And.intro hnx hne) | (have hne := hnx)))) | (with_reducible refine both_case ?_ ?_) | (with_reducible refine same_case ?_) | (refine CALL_specN [] _ hRu.v (AVleA.rfl' _) (SubN.refl _) (fun r σ' hh hnd => ?_);obtain ⟨bm, rfl, rfl⟩ := hh;(have hne := hnd);(try simp [Store.keys] at hne)) | (refine RAW_lookup mapK_i (l := ruleTab) (k := 8) (z := .agg #[.nilFunc, .nilFunc]) (zv := .agg [.sc .nilFunc, .sc .nilFunc]) (eT := 107) rfl (rep_v_35 _) (by kernel_rfl) (by first | exact sget_hd | (simp [Store.get, *]; done)) (by kernel_rfl) rep_zr_35 ?_) | (refine CALL_pure_le hE (told_le_35 (by rw [Itm.cs_eq]; simp [AVleL, AVle1, Itm.told, Itm.just, iz, hk])) ?_) | fail))
  all_goals (refine RET.eq hR (congrArg AV.bool ?_); clear hR hH eH hM hE hRu hi hm1 hoo hkk q)
  all_goals (try (first
    | exact absurd h (by decide)
    | (simp [*]; done)
    | (simp [*, Bool.and_assoc]; done)
    | (simp_all; done)))

set_option maxHeartbeats 4000000 in
theorem valid_9 (x : Itm) (q : x.Short1) (hk : x.kind = 9) : Pure G Tryz.prog 38 [.agg x.cs] (.bool x.may) := by
  have hRu := f66 G hG
  have hH := f301 G x
  have eH := Itm.cs_eq { iz with act := x.act, item := x.item, day := x.day }
  simp only [iz, List.map_nil] at eH
  simp only [iz] at hH
  rw [eH] at hH
  have hM := f302 G x
  have hE := f70 G x q.fit x.told
  have hm1 : mgets (9 : Int) ruleTab = some (.agg [fnv 301, fnv 302]) := by simp [mgets, ruleTab]
  have hi := f41 G (9 : Int)
  rw [show inR (9 : Int) 0 6 = false from by decide] at hi
  refine Pure.w c38 fun R hR => ?_
  unfold s38 r38
  rw [Itm.may_eq] at hR
  unfold Itm.pre at hR
  generalize decide (x = x.told) = e at *
  have hkk : inR x.kind 0 11 = true := by rw [hk]; decide
  have hoo : x.own (Itm.mayOne x.by_) = (inR x.act 1 1048576 && (inR x.item (-1) 31 && inR x.day 0 1048576)) := by unfold Itm.own; simp [hk]
  rw [hoo, hkk] at hR
  (repeat' (first | (with_reducible (refine gd_case (fun h => ?_) (fun h => ?_)) <;> (try simp only [Da, Db, Dc, Dw, De, Df, Dg, Dh] at h)) | (with_reducible refine CALL_pure (hH) ?_) | (with_reducible refine CALL_pure (hM) ?_) | (with_reducible refine CALL_pure (hi) ?_) | simp -dsimp -implicitDefEqProofs only [EVz, seval, ↓reduceIte, reduceCtorEq, EV6, EV7, hk, hm1, Option.getD_some, Option.isSome_some, fnv, U.cs_fold, hne] | simp -dsimp -implicitDefEqProofs only [EVz, seval, ↓reduceIte, reduceCtorEq, EV6, EV7, hk, hm1, Option.getD_some, Option.isSome_some, fnv, U.cs_fold] | (with_reducible intro blk hblk; (try (have hnx := hblk; simp only [EVK] at hnx; first | (have hne := And.intro hnx hne) | (have hne := hnx)))) | (with_reducible refine both_case ?_ ?_) | (with_reducible refine same_case ?_) | (refine CALL_specN [] _ hRu.v (AVleA.rfl' _) (SubN.refl _) (fun r σ' hh hnd => ?_);obtain ⟨bm, rfl, rfl⟩ := hh;(have hne := hnd);(try simp [Store.keys] at hne)) | (refine RAW_lookup mapK_i (l := ruleTab) (k := 9) (z := .agg #[.nilFunc, .nilFunc]) (zv := .agg [.sc .nilFunc, .sc .nilFunc]) (eT := 107) rfl (rep_v_35 _) (by kernel_rfl) (by first | exact sget_hd | (simp [Store.get, *]; done)) (by kernel_rfl) rep_zr_35 ?_) | (refine CALL_pure_le hE (told_le_35 (by rw [Itm.cs_eq]; simp [AVleL, AVle1, Itm.told, Itm.just, iz, hk])) ?_) | fail))
  all_goals (refine RET.eq hR (congrArg AV.bool ?_); clear hR hH eH hM hE hRu hi hm1 hoo hkk q)
  all_goals (try (first
    | exact absurd h (by decide)
    | (simp [*]; done)
    | (simp [*, Bool.and_assoc]; done)
    | (simp_all; done)))

set_option maxHeartbeats 4000000 in
theorem valid_10 (x : Itm) (q : x.Short1) (hk : x.kind = 10) : Pure G Tryz.prog 38 [.agg x.cs] (.bool x.may) := by
  have hRu := f66 G hG
  have hH := f125 G x
  have eH := Itm.cs_eq { iz with event := x.event, day := x.day }
  simp only [iz, List.map_nil] at eH
  simp only [iz] at hH
  rw [eH] at hH
  have hM := f126 G x q
  have hE := f70 G x q.fit x.told
  have hm1 : mgets (10 : Int) ruleTab = some (.agg [fnv 125, fnv 126]) := by simp [mgets, ruleTab]
  have hi := f41 G (10 : Int)
  rw [show inR (10 : Int) 0 6 = false from by decide] at hi
  refine Pure.w c38 fun R hR => ?_
  unfold s38 r38
  rw [Itm.may_eq] at hR
  unfold Itm.pre at hR
  generalize decide (x = x.told) = e at *
  have hkk : inR x.kind 0 11 = true := by rw [hk]; decide
  have hoo : x.own (Itm.mayOne x.by_) = (nameOk x.event && inR x.day 0 1048576) := by unfold Itm.own; simp [hk]
  rw [hoo, hkk] at hR
  (repeat' (first | (with_reducible (refine gd_case (fun h => ?_) (fun h => ?_)) <;> (try simp only [Da, Db, Dc, Dw, De, Df, Dg, Dh] at h)) | (with_reducible refine CALL_pure (hH) ?_) | (with_reducible refine CALL_pure (hM) ?_) | (with_reducible refine CALL_pure (hi) ?_) | simp -dsimp -implicitDefEqProofs only [EVz, seval, ↓reduceIte, reduceCtorEq, EV6, EV7, hk, hm1, Option.getD_some, Option.isSome_some, fnv, U.cs_fold, hne] | simp -dsimp -implicitDefEqProofs only [EVz, seval, ↓reduceIte, reduceCtorEq, EV6, EV7, hk, hm1, Option.getD_some, Option.isSome_some, fnv, U.cs_fold] | (with_reducible intro blk hblk; (try (have hnx := hblk; simp only [EVK] at hnx; first | (have hne := And.intro hnx hne) | (have hne := hnx)))) | (with_reducible refine both_case ?_ ?_) | (with_reducible refine same_case ?_) | (refine CALL_specN [] _ hRu.v (AVleA.rfl' _) (SubN.refl _) (fun r σ' hh hnd => ?_);obtain ⟨bm, rfl, rfl⟩ := hh;(have hne := hnd);(try simp [Store.keys] at hne)) | (refine RAW_lookup mapK_i (l := ruleTab) (k := 10) (z := .agg #[.nilFunc, .nilFunc]) (zv := .agg [.sc .nilFunc, .sc .nilFunc]) (eT := 107) rfl (rep_v_35 _) (by kernel_rfl) (by first | exact sget_hd | (simp [Store.get, *]; done)) (by kernel_rfl) rep_zr_35 ?_) | (refine CALL_pure_le hE (told_le_35 (by rw [Itm.cs_eq]; simp [AVleL, AVle1, Itm.told, Itm.just, iz, hk])) ?_) | fail))
  all_goals (refine RET.eq hR (congrArg AV.bool ?_); clear hR hH eH hM hE hRu hi hm1 hoo hkk q)
  all_goals (try (first
    | exact absurd h (by decide)
    | (simp [*]; done)
    | (simp [*, Bool.and_assoc]; done)
    | (simp_all; done)))

set_option maxHeartbeats 4000000 in
theorem valid_11 (x : Itm) (q : x.Short1) (hy : ∀ y ∈ x.by_, Pure G Tryz.prog 38 [.agg y.cs] (.bool y.may)) (hk : x.kind = 11) : Pure G Tryz.prog 38 [.agg x.cs] (.bool x.may) := by
  have hRu := f66 G hG
  have hH := f128 G x
  have eH := Itm.cs_eq { iz with act := x.act, item := x.item, by_ := x.by_ }
  simp only [iz, List.map_nil] at eH
  simp only [iz] at hH
  rw [eH] at hH
  have hM := f129 G x q hy
  have hE := f70 G x q.fit x.told
  have hm1 : mgets (11 : Int) ruleTab = some (.agg [fnv 128, fnv 129]) := by simp [mgets, ruleTab]
  have hi := f41 G (11 : Int)
  rw [show inR (11 : Int) 0 6 = false from by decide] at hi
  refine Pure.w c38 fun R hR => ?_
  unfold s38 r38
  rw [Itm.may_eq] at hR
  unfold Itm.pre at hR
  generalize decide (x = x.told) = e at *
  have hkk : inR x.kind 0 11 = true := by rw [hk]; decide
  have hoo : x.own (Itm.mayOne x.by_) = (inR x.act 1 1048576 && (inR x.item 0 31 && Itm.mayOne x.by_)) := by unfold Itm.own; simp [hk]
  rw [hoo, hkk] at hR
  (repeat' (first | (with_reducible (refine gd_case (fun h => ?_) (fun h => ?_)) <;> (try simp only [Da, Db, Dc, Dw, De, Df, Dg, Dh] at h)) | (with_reducible refine CALL_pure (hH) ?_) | (with_reducible refine CALL_pure (hM) ?_) | (with_reducible refine CALL_pure (hi) ?_) | simp -dsimp -implicitDefEqProofs only [EVz, seval, ↓reduceIte, reduceCtorEq, EV6, EV7, hk, hm1, Option.getD_some, Option.isSome_some, fnv, U.cs_fold, hne] | simp -dsimp -implicitDefEqProofs only [EVz, seval, ↓reduceIte, reduceCtorEq, EV6, EV7, hk, hm1, Option.getD_some, Option.isSome_some, fnv, U.cs_fold] | (with_reducible intro blk hblk; (try (have hnx := hblk; simp only [EVK] at hnx; first | (have hne := And.intro hnx hne) | (have hne := hnx)))) | (with_reducible refine both_case ?_ ?_) | (with_reducible refine same_case ?_) | (refine CALL_specN [] _ hRu.v (AVleA.rfl' _) (SubN.refl _) (fun r σ' hh hnd => ?_);obtain ⟨bm, rfl, rfl⟩ := hh;(have hne := hnd);(try simp [Store.keys] at hne)) | (refine RAW_lookup mapK_i (l := ruleTab) (k := 11) (z := .agg #[.nilFunc, .nilFunc]) (zv := .agg [.sc .nilFunc, .sc .nilFunc]) (eT := 107) rfl (rep_v_35 _) (by kernel_rfl) (by first | exact sget_hd | (simp [Store.get, *]; done)) (by kernel_rfl) rep_zr_35 ?_) | (refine CALL_pure_le hE (told_le_35 (by rw [Itm.cs_eq]; simp [AVleL, AVle1, Itm.told, Itm.just, iz, hk])) ?_) | fail))
  all_goals (refine RET.eq hR (congrArg AV.bool ?_); clear hR hH eH hM hE hRu hi hm1 hoo hkk q)
  all_goals (try (first
    | exact absurd h (by decide)
    | (simp [*]; done)
    | (simp [*, Bool.and_assoc]; done)
    | (simp_all; done)))
end
end Go.Av
end

section
namespace Go.Av
open Go Go.RowKit Go.Proofs
set_option linter.unusedSimpArgs false
set_option linter.unusedVariables false

def bes (x : Itm) : Bool := decide (x.wh = 2) || decide (x.wh = 3)
def ins (x : Itm) (k : Int) : Bool := decide (x.kind = k) && !bes x
/-! ### valid items -/
end Go.Av
end

section
namespace Go.Av
open Go Go.RowKit Go.Proofs
set_option linter.unusedSimpArgs false
set_option linter.unusedVariables false

section
variable (G : Glob) (hG : GOk G)

include hG in
end
end Go.Av
end

section
namespace Go.Av
open Go Go.RowKit Go.Proofs
set_option linter.unusedSimpArgs false
set_option linter.unusedVariables false

theorem tab_none {k : Int} (h : ¬ (0 ≤ k ∧ k ≤ 11)) : mgets k ruleTab = none := by
  simp only [ruleTab, mgets]
  rw [if_neg (by omega), if_neg (by omega), if_neg (by omega), if_neg (by omega), if_neg (by omega), if_neg (by omega), if_neg (by omega), if_neg (by omega), if_neg (by omega), if_neg (by omega), if_neg (by omega), if_neg (by omega)]

section
variable (G : Glob) (hG : GOk G)
include hG

theorem valid_none (x : Itm) (hk : ¬ (0 ≤ x.kind ∧ x.kind ≤ 11)) : Pure G Tryz.prog 38 [.agg x.cs] (.bool x.may) := by
  have hRu := f66 G hG
  have hm1 := tab_none hk
  have hkk : inR x.kind 0 11 = false := by unfold inR; simp; omega
  refine Pure.w c38 fun R hR => ?_
  unfold s38 r38
  rw [Itm.may_eq] at hR
  unfold Itm.pre at hR
  rw [hkk] at hR
  (repeat' (first | simp -dsimp -implicitDefEqProofs only [EVz, seval, ↓reduceIte, reduceCtorEq, EV6, EV7, hm1, Option.getD_none, Option.isSome_none, hne] | simp -dsimp -implicitDefEqProofs only [EVz, seval, ↓reduceIte, reduceCtorEq, EV6, EV7, hm1, Option.getD_none, Option.isSome_none] | (with_reducible intro blk hblk; (try (have hnx := hblk; simp only [EVK] at hnx; first | (have hne := And.intro hnx hne) | (have hne := hnx)))) | (with_reducible refine both_case ?_ ?_) | (with_reducible refine same_case ?_) | (refine CALL_specN [] _ hRu.v (AVleA.rfl' _) (SubN.refl _) (fun r σ' hh hnd => ?_);obtain ⟨bm, rfl, rfl⟩ := hh;(have hne := hnd);(try simp [Store.keys] at hne)) | (refine RAW_lookup mapK_i (l := ruleTab) (k := x.kind) (z := .agg #[.nilFunc, .nilFunc]) (zv := .agg [.sc .nilFunc, .sc .nilFunc]) (eT := 107) rfl (rep_v_33 _) (by kernel_rfl) (by first | exact sget_hd | (simp [Store.get, *]; done)) (by kernel_rfl) rep_zr_33 ?_) | fail))
  all_goals (refine RET.eq hR (congrArg AV.bool ?_); simp; done)

theorem f38 : ∀ x : Itm, x.Shorts → Pure G Tryz.prog 38 [.agg x.cs] (.bool x.may) := by
  refine Itm.ind fun x ih hs => ?_
  obtain ⟨q, hby⟩ := (Itm.Shorts_eq x).1 hs
  by_cases hk : 0 ≤ x.kind ∧ x.kind ≤ 11
  · have hh : x.kind = 0 ∨ x.kind = 1 ∨ x.kind = 2 ∨ x.kind = 3 ∨ x.kind = 4 ∨ x.kind = 5 ∨ x.kind = 6 ∨ x.kind = 7 ∨ x.kind = 8 ∨ x.kind = 9 ∨ x.kind = 10 ∨ x.kind = 11 := by omega
    rcases hh with h | h | h | h | h | h | h | h | h | h | h | h
    · exact valid_0 G hG x q h
    · exact valid_1 G hG x q h
    · exact valid_2 G hG x q h
    · exact valid_3 G hG x q h
    · exact valid_4 G hG x q h
    · exact valid_5 G hG x q h
    · exact valid_6 G hG x q h
    · exact valid_7 G hG x q h
    · exact valid_8 G hG x q h
    · exact valid_9 G hG x q h
    · exact valid_10 G hG x q h
    · exact valid_11 G hG x q (fun y hy => ih y hy (hby y hy)) h
  · exact valid_none G hG x hk

end
end Go.Av
end

section
namespace Go.Av
open Go Go.RowKit Go.Proofs
set_option linter.unusedSimpArgs false
set_option linter.unusedVariables false

section
variable (G : Glob)
variable (hG : GOk G)
include hG
end
end Go.Av
end

section
namespace Go.Av
open Go Go.RowKit Go.Proofs
set_option linter.unusedSimpArgs false
set_option linter.unusedVariables false

end Go.Av
end

section
namespace Go.Av
open Go Go.RowKit Go.Proofs
set_option linter.unusedSimpArgs false
set_option linter.unusedVariables false

section
variable (G : Glob)
end
end Go.Av
end

section
namespace Go.Av
open Go Go.RowKit Go.Proofs
set_option linter.unusedSimpArgs false
set_option linter.unusedVariables false

section
variable (G : Glob) (hG : GOk G)
include hG

end
end Go.Av
end

section
namespace Go.Av
open Go Go.RowKit Go.Proofs
set_option linter.unusedSimpArgs false
set_option linter.unusedVariables false

section
variable (G : Glob)

end
end Go.Av
end

section
namespace Go.Av
open Go Go.RowKit Go.Proofs
set_option linter.unusedSimpArgs false
set_option linter.unusedVariables false

section
variable (G : Glob)

end
end Go.Av
end

section
namespace Go.Av
open Go Go.RowKit Go.Proofs
set_option linter.unusedSimpArgs false
set_option linter.unusedVariables false

section
variable (G : Glob)

end
end Go.Av
end

section
namespace Go.Av
open Go Go.RowKit Go.Proofs
set_option linter.unusedSimpArgs false
set_option linter.unusedVariables false

section
variable (G : Glob)
end
end Go.Av
end

section
namespace Go.Av
open Go Go.RowKit Go.Proofs
set_option linter.unusedSimpArgs false
set_option linter.unusedVariables false

section
variable (G : Glob)
end
end Go.Av
end

section
namespace Go.Av
open Go Go.RowKit Go.Proofs
set_option linter.unusedSimpArgs false
set_option linter.unusedVariables false

/-! ### stops and joins -/
section
variable (G : Glob)
variable (hG : GOk G)
include hG
end
end Go.Av
end
