/-
  LINT, 35: valid items by the program.
-/
import Derived.Test.YtedcgagodcfgmaaGreatDoorXL31toXL23
import Derived.Test.YtedcgagodcfgmaaGreatDoorXL25toXAv29
import Derived.Test.YtedcgagodcfgmaaGreatDoorXP1toXL28
section
namespace Go.Av
open Go Go.RowKit Go.Proofs
set_option linter.unusedSimpArgs false
set_option linter.unusedVariables false

theorem rep_v_35 (n : Int) : ∀ τ w v, Rep τ w (.int .i64 n) v → v = intK n := by
  intro τ w v h
  simp only [Rep] at h
  exact h
theorem rep_zr_35 : ∀ τ w, Rep τ w (.agg [.sc .nilFunc, .sc .nilFunc]) (.agg #[.nilFunc, .nilFunc]) := by
  intro τ w
  simp only [Rep, RepL]
  refine ⟨_, rfl, by simp [Value.oneCell'], _, _, rfl, rfl, _, _, rfl, rfl, rfl⟩
theorem told_le_35 {x : Itm} {cs : List AV} (h : AVleL cs x.told.cs) : AVleA [.agg x.cs, .agg cs] [.agg x.cs, .agg x.told.cs] := ⟨AVle.rfl' _, .inr h, trivial⟩

section
variable (G : Glob) (hG : GOk G)
include hG

set_option maxHeartbeats 4000000 in
theorem valid_8 (x : Itm) (q : x.Short1) (hk : x.kind = 8) : Pure G Tryz.prog 30 [.agg x.cs] (.bool x.may) := by
  have hRu := f69 G hG
  have hH := f365 G x
  have eH := Itm.cs_eq { iz with act := x.act, item := x.item, day := x.day }
  simp only [iz, List.map_nil] at eH
  simp only [iz] at hH
  rw [eH] at hH
  have hM := f366 G x
  have hE := f42 G x q.fit x.told
  have hm1 : mgets (8 : Int) ruleTab = some (.agg [fnv 365, fnv 366]) := by simp [mgets, ruleTab]
  have hi := f70 G (8 : Int)
  rw [show inR (8 : Int) 0 6 = false from by decide] at hi
  refine Pure.w c30 fun R hR => ?_
  unfold s30 r30
  rw [Itm.may_eq] at hR
  unfold Itm.pre at hR
  generalize decide (x = x.told) = e at *
  have hkk : inR x.kind 0 11 = true := by rw [hk]; decide
  have hoo : x.own (Itm.mayOne x.by_) = (inR x.act 1 1048576 && (inR x.item (-1) 31 && inR x.day 0 1048576)) := by unfold Itm.own; simp [hk]
  rw [hoo, hkk] at hR
  (repeat' (first | (with_reducible (refine gd_case (fun h => ?_) (fun h => ?_)) <;> (try simp only [Da, Db, Dc, Dd, De, Df, Dg, Dh] at h)) | (with_reducible refine CALL_pure (hH) ?_) | (with_reducible refine CALL_pure (hM) ?_) | (with_reducible refine CALL_pure (hi) ?_) | simp -dsimp -implicitDefEqProofs only [EV1, EV2, EV3, EV4, EV5, seval, ↓reduceIte, reduceCtorEq, eq_self, Option.map_some, decide_true, decide_false, EV6, EV7, hk, hm1, Option.getD_some, Option.isSome_some, fnv, U.cs_fold, hne] | simp -dsimp -implicitDefEqProofs only [EV1, EV2, EV3, EV4, EV5, seval, ↓reduceIte, reduceCtorEq, eq_self, Option.map_some, decide_true, decide_false, EV6, EV7, hk, hm1, Option.getD_some, Option.isSome_some, fnv, U.cs_fold] | (with_reducible intro blk hblk; (try (have hnx := hblk; simp only [EVK] at hnx; first | (have hne := And.intro hnx hne) | (have hne := hnx)))) | (with_reducible refine both_case ?_ ?_) | (with_reducible refine same_case ?_) | (refine CALL_specN [] _ hRu.v (AVleA.rfl' _) (SubN.refl _) (fun r σ' hh hnd => ?_);obtain ⟨bm, rfl, rfl⟩ := hh;(have hne := hnd);(try simp [Store.keys] at hne)) | (refine RAW_lookup mapK_i (l := ruleTab) (k := 8) (z := .agg #[.nilFunc, .nilFunc]) (zv := .agg [.sc .nilFunc, .sc .nilFunc]) (eT := 107) rfl (rep_v_35 _) (by kernel_rfl) (by first | exact sget_hd | (simp [Store.get, *]; done)) (by kernel_rfl) rep_zr_35 ?_) | (refine CALL_pure_le hE (told_le_35 (by rw [Itm.cs_eq]; simp [AVleL, AVle1, Itm.told, Itm.just, iz, hk])) ?_)))
  all_goals (refine RET.eq hR (congrArg AV.bool ?_); clear hR hH eH hM hE hRu hi hm1 hoo hkk q)
  all_goals (try (first
    | exact absurd h (by decide)
    | (simp [*]; done)
    | (simp [*, Bool.and_assoc]; done)
    | (simp_all; done)))

set_option maxHeartbeats 4000000 in
theorem valid_9 (x : Itm) (q : x.Short1) (hk : x.kind = 9) : Pure G Tryz.prog 30 [.agg x.cs] (.bool x.may) := by
  have hRu := f69 G hG
  have hH := f365 G x
  have eH := Itm.cs_eq { iz with act := x.act, item := x.item, day := x.day }
  simp only [iz, List.map_nil] at eH
  simp only [iz] at hH
  rw [eH] at hH
  have hM := f366 G x
  have hE := f42 G x q.fit x.told
  have hm1 : mgets (9 : Int) ruleTab = some (.agg [fnv 365, fnv 366]) := by simp [mgets, ruleTab]
  have hi := f70 G (9 : Int)
  rw [show inR (9 : Int) 0 6 = false from by decide] at hi
  refine Pure.w c30 fun R hR => ?_
  unfold s30 r30
  rw [Itm.may_eq] at hR
  unfold Itm.pre at hR
  generalize decide (x = x.told) = e at *
  have hkk : inR x.kind 0 11 = true := by rw [hk]; decide
  have hoo : x.own (Itm.mayOne x.by_) = (inR x.act 1 1048576 && (inR x.item (-1) 31 && inR x.day 0 1048576)) := by unfold Itm.own; simp [hk]
  rw [hoo, hkk] at hR
  (repeat' (first | (with_reducible (refine gd_case (fun h => ?_) (fun h => ?_)) <;> (try simp only [Da, Db, Dc, Dd, De, Df, Dg, Dh] at h)) | (with_reducible refine CALL_pure (hH) ?_) | (with_reducible refine CALL_pure (hM) ?_) | (with_reducible refine CALL_pure (hi) ?_) | simp -dsimp -implicitDefEqProofs only [EV1, EV2, EV3, EV4, EV5, seval, ↓reduceIte, reduceCtorEq, eq_self, Option.map_some, decide_true, decide_false, EV6, EV7, hk, hm1, Option.getD_some, Option.isSome_some, fnv, U.cs_fold, hne] | simp -dsimp -implicitDefEqProofs only [EV1, EV2, EV3, EV4, EV5, seval, ↓reduceIte, reduceCtorEq, eq_self, Option.map_some, decide_true, decide_false, EV6, EV7, hk, hm1, Option.getD_some, Option.isSome_some, fnv, U.cs_fold] | (with_reducible intro blk hblk; (try (have hnx := hblk; simp only [EVK] at hnx; first | (have hne := And.intro hnx hne) | (have hne := hnx)))) | (with_reducible refine both_case ?_ ?_) | (with_reducible refine same_case ?_) | (refine CALL_specN [] _ hRu.v (AVleA.rfl' _) (SubN.refl _) (fun r σ' hh hnd => ?_);obtain ⟨bm, rfl, rfl⟩ := hh;(have hne := hnd);(try simp [Store.keys] at hne)) | (refine RAW_lookup mapK_i (l := ruleTab) (k := 9) (z := .agg #[.nilFunc, .nilFunc]) (zv := .agg [.sc .nilFunc, .sc .nilFunc]) (eT := 107) rfl (rep_v_35 _) (by kernel_rfl) (by first | exact sget_hd | (simp [Store.get, *]; done)) (by kernel_rfl) rep_zr_35 ?_) | (refine CALL_pure_le hE (told_le_35 (by rw [Itm.cs_eq]; simp [AVleL, AVle1, Itm.told, Itm.just, iz, hk])) ?_)))
  all_goals (refine RET.eq hR (congrArg AV.bool ?_); clear hR hH eH hM hE hRu hi hm1 hoo hkk q)
  all_goals (try (first
    | exact absurd h (by decide)
    | (simp [*]; done)
    | (simp [*, Bool.and_assoc]; done)
    | (simp_all; done)))

set_option maxHeartbeats 4000000 in
theorem valid_10 (x : Itm) (q : x.Short1) (hk : x.kind = 10) : Pure G Tryz.prog 30 [.agg x.cs] (.bool x.may) := by
  have hRu := f69 G hG
  have hH := f135 G x
  have eH := Itm.cs_eq { iz with event := x.event, day := x.day }
  simp only [iz, List.map_nil] at eH
  simp only [iz] at hH
  rw [eH] at hH
  have hM := f136 G x q
  have hE := f42 G x q.fit x.told
  have hm1 : mgets (10 : Int) ruleTab = some (.agg [fnv 135, fnv 136]) := by simp [mgets, ruleTab]
  have hi := f70 G (10 : Int)
  rw [show inR (10 : Int) 0 6 = false from by decide] at hi
  refine Pure.w c30 fun R hR => ?_
  unfold s30 r30
  rw [Itm.may_eq] at hR
  unfold Itm.pre at hR
  generalize decide (x = x.told) = e at *
  have hkk : inR x.kind 0 11 = true := by rw [hk]; decide
  have hoo : x.own (Itm.mayOne x.by_) = (nameOk x.event && inR x.day 0 1048576) := by unfold Itm.own; simp [hk]
  rw [hoo, hkk] at hR
  (repeat' (first | (with_reducible (refine gd_case (fun h => ?_) (fun h => ?_)) <;> (try simp only [Da, Db, Dc, Dd, De, Df, Dg, Dh] at h)) | (with_reducible refine CALL_pure (hH) ?_) | (with_reducible refine CALL_pure (hM) ?_) | (with_reducible refine CALL_pure (hi) ?_) | simp -dsimp -implicitDefEqProofs only [EV1, EV2, EV3, EV4, EV5, seval, ↓reduceIte, reduceCtorEq, eq_self, Option.map_some, decide_true, decide_false, EV6, EV7, hk, hm1, Option.getD_some, Option.isSome_some, fnv, U.cs_fold, hne] | simp -dsimp -implicitDefEqProofs only [EV1, EV2, EV3, EV4, EV5, seval, ↓reduceIte, reduceCtorEq, eq_self, Option.map_some, decide_true, decide_false, EV6, EV7, hk, hm1, Option.getD_some, Option.isSome_some, fnv, U.cs_fold] | (with_reducible intro blk hblk; (try (have hnx := hblk; simp only [EVK] at hnx; first | (have hne := And.intro hnx hne) | (have hne := hnx)))) | (with_reducible refine both_case ?_ ?_) | (with_reducible refine same_case ?_) | (refine CALL_specN [] _ hRu.v (AVleA.rfl' _) (SubN.refl _) (fun r σ' hh hnd => ?_);obtain ⟨bm, rfl, rfl⟩ := hh;(have hne := hnd);(try simp [Store.keys] at hne)) | (refine RAW_lookup mapK_i (l := ruleTab) (k := 10) (z := .agg #[.nilFunc, .nilFunc]) (zv := .agg [.sc .nilFunc, .sc .nilFunc]) (eT := 107) rfl (rep_v_35 _) (by kernel_rfl) (by first | exact sget_hd | (simp [Store.get, *]; done)) (by kernel_rfl) rep_zr_35 ?_) | (refine CALL_pure_le hE (told_le_35 (by rw [Itm.cs_eq]; simp [AVleL, AVle1, Itm.told, Itm.just, iz, hk])) ?_)))
  all_goals (refine RET.eq hR (congrArg AV.bool ?_); clear hR hH eH hM hE hRu hi hm1 hoo hkk q)
  all_goals (try (first
    | exact absurd h (by decide)
    | (simp [*]; done)
    | (simp [*, Bool.and_assoc]; done)
    | (simp_all; done)))

set_option maxHeartbeats 4000000 in
theorem valid_11 (x : Itm) (q : x.Short1) (hy : ∀ y ∈ x.by_, Pure G Tryz.prog 30 [.agg y.cs] (.bool y.may)) (hk : x.kind = 11) : Pure G Tryz.prog 30 [.agg x.cs] (.bool x.may) := by
  have hRu := f69 G hG
  have hH := f138 G x
  have eH := Itm.cs_eq { iz with act := x.act, item := x.item, by_ := x.by_ }
  simp only [iz, List.map_nil] at eH
  simp only [iz] at hH
  rw [eH] at hH
  have hM := f139 G x q hy
  have hE := f42 G x q.fit x.told
  have hm1 : mgets (11 : Int) ruleTab = some (.agg [fnv 138, fnv 139]) := by simp [mgets, ruleTab]
  have hi := f70 G (11 : Int)
  rw [show inR (11 : Int) 0 6 = false from by decide] at hi
  refine Pure.w c30 fun R hR => ?_
  unfold s30 r30
  rw [Itm.may_eq] at hR
  unfold Itm.pre at hR
  generalize decide (x = x.told) = e at *
  have hkk : inR x.kind 0 11 = true := by rw [hk]; decide
  have hoo : x.own (Itm.mayOne x.by_) = (inR x.act 1 1048576 && (inR x.item 0 31 && Itm.mayOne x.by_)) := by unfold Itm.own; simp [hk]
  rw [hoo, hkk] at hR
  (repeat' (first | (with_reducible (refine gd_case (fun h => ?_) (fun h => ?_)) <;> (try simp only [Da, Db, Dc, Dd, De, Df, Dg, Dh] at h)) | (with_reducible refine CALL_pure (hH) ?_) | (with_reducible refine CALL_pure (hM) ?_) | (with_reducible refine CALL_pure (hi) ?_) | simp -dsimp -implicitDefEqProofs only [EV1, EV2, EV3, EV4, EV5, seval, ↓reduceIte, reduceCtorEq, eq_self, Option.map_some, decide_true, decide_false, EV6, EV7, hk, hm1, Option.getD_some, Option.isSome_some, fnv, U.cs_fold, hne] | simp -dsimp -implicitDefEqProofs only [EV1, EV2, EV3, EV4, EV5, seval, ↓reduceIte, reduceCtorEq, eq_self, Option.map_some, decide_true, decide_false, EV6, EV7, hk, hm1, Option.getD_some, Option.isSome_some, fnv, U.cs_fold] | (with_reducible intro blk hblk; (try (have hnx := hblk; simp only [EVK] at hnx; first | (have hne := And.intro hnx hne) | (have hne := hnx)))) | (with_reducible refine both_case ?_ ?_) | (with_reducible refine same_case ?_) | (refine CALL_specN [] _ hRu.v (AVleA.rfl' _) (SubN.refl _) (fun r σ' hh hnd => ?_);obtain ⟨bm, rfl, rfl⟩ := hh;(have hne := hnd);(try simp [Store.keys] at hne)) | (refine RAW_lookup mapK_i (l := ruleTab) (k := 11) (z := .agg #[.nilFunc, .nilFunc]) (zv := .agg [.sc .nilFunc, .sc .nilFunc]) (eT := 107) rfl (rep_v_35 _) (by kernel_rfl) (by first | exact sget_hd | (simp [Store.get, *]; done)) (by kernel_rfl) rep_zr_35 ?_) | (refine CALL_pure_le hE (told_le_35 (by rw [Itm.cs_eq]; simp [AVleL, AVle1, Itm.told, Itm.just, iz, hk])) ?_)))
  all_goals (refine RET.eq hR (congrArg AV.bool ?_); clear hR hH eH hM hE hRu hi hm1 hoo hkk q)
  all_goals (try (first
    | exact absurd h (by decide)
    | (simp [*]; done)
    | (simp [*, Bool.and_assoc]; done)
    | (simp_all; done)))
end
end Go.Av
end

section
namespace Go.Av
open Go Go.RowKit Go.Proofs
set_option linter.unusedSimpArgs false
set_option linter.unusedVariables false

def fw (w : Int) (t : List UInt8) : Fnd := ⟨0, ⟨0, 0, 0⟩, w, t⟩
def tInvalid : List UInt8 := [105, 110, 118, 97, 108, 105, 100]
def tBook : List UInt8 := [98, 111, 111, 107]
def tContain : List UInt8 := [99, 111, 110, 116, 97, 105, 110, 109, 101, 110, 116]
def tSelf : List UInt8 := [115, 101, 108, 102]
def tNoEffect : List UInt8 := [110, 111, 32, 101, 102, 102, 101, 99, 116]
def tOwnLabel : List UInt8 := [111, 119, 110, 32, 108, 97, 98, 101, 108]

def bes (x : Itm) : Bool := decide (x.wh = 2) || decide (x.wh = 3)
def ins (x : Itm) (k : Int) : Bool := decide (x.kind = k) && !bes x
/-- The rules of the program. -/
def rule1 (x : Itm) : Bool := (isBook x.at_ && ((decide (1 ≤ x.kind) && decide (x.kind ≤ 6)) || (decide (x.kind = 0) && bes x))) || (decide (x.kind = 6) && (bes x && isBook x.to_))
def rule2 (x : Itm) : Bool := (ins x 0 && !nests (lastStp x.at_).kind x.unit.kind) || (ins x 6 && !nests (lastStp x.to_).kind (lastStp x.at_).kind)
def rule3 (x : Itm) : Bool := ins x 6 && decide (x.at_ = x.to_)
def rule4 (x : Itm) : Bool := (decide (x.kind = 2) && decide (x.old = x.new)) || (decide (x.kind = 6) && (bes x && decide (x.at_ = x.to_)))
def rule5 (x : Itm) : Bool := decide (x.kind = 5) && decide ((lastStp x.at_).label = x.label)
def optF (b : Bool) (f : Fnd) : List Fnd := if b then [f] else []
def flawsP (x : Itm) : List Fnd := optF (rule1 x) (fw 9 tBook) ++ (optF (rule2 x) (fw 9 tContain) ++ (optF (rule3 x) (fw 9 tSelf) ++ (optF (rule4 x) (fw 11 tNoEffect) ++ optF (rule5 x) (fw 10 tOwnLabel))))
/-- The rules of the reference. -/
def besR (x : Itm) : Bool := decide (2 ≤ x.wh)
def ruleR1 (x : Itm) : Bool := (decide (1 ≤ x.kind) && (decide (x.kind ≤ 6) && isBook x.at_)) || ((decide (x.kind = 0) && (besR x && isBook x.at_)) || (decide (x.kind = 6) && (besR x && isBook x.to_)))
def ruleR2 (x : Itm) : Bool := (decide (x.kind = 0) && (!besR x && !nests (lastStp x.at_).kind x.unit.kind)) || (decide (x.kind = 6) && (!besR x && !nests (lastStp x.to_).kind (lastStp x.at_).kind))
def ruleR3 (x : Itm) : Bool := decide (x.kind = 6) && (!besR x && decide (x.at_ = x.to_))
def ruleR4 (x : Itm) : Bool := (decide (x.kind = 2) && decide (x.old = x.new)) || (decide (x.kind = 6) && (besR x && decide (x.at_ = x.to_)))
def ruleR5 (x : Itm) : Bool := decide (x.kind = 5) && (!isBook x.at_ && decide ((lastStp x.at_).label = x.label))
def flawsR (x : Itm) : List Fnd := optF (ruleR1 x) (fw 9 tBook) ++ (optF (ruleR2 x) (fw 9 tContain) ++ (optF (ruleR3 x) (fw 9 tSelf) ++ (optF (ruleR4 x) (fw 11 tNoEffect) ++ optF (ruleR5 x) (fw 10 tOwnLabel))))
mutual
def Itm.finds : Itm → List Fnd
  | ⟨k, a, t, wh, n, u, o, w, l, f, s, ac, it, d, e, b⟩ => if Itm.may ⟨k, a, t, wh, n, u, o, w, l, f, s, ac, it, d, e, b⟩ = true then flawsP ⟨k, a, t, wh, n, u, o, w, l, f, s, ac, it, d, e, b⟩ ++ Itm.findss b else [fw 1 tInvalid]
def Itm.findss : List Itm → List Fnd
  | [] => []
  | x :: l => Itm.finds x ++ Itm.findss l
end
theorem Itm.finds_eq (x : Itm) : x.finds = if x.may = true then flawsP x ++ Itm.findss x.by_ else [fw 1 tInvalid] := by cases x; rw [Itm.finds]
theorem Itm.findss_cons (x : Itm) (l : List Itm) : Itm.findss (x :: l) = x.finds ++ Itm.findss l := by rw [Itm.findss]
theorem Itm.findss_nil : Itm.findss [] = [] := by rw [Itm.findss]
mutual
def Itm.refs : Itm → List Fnd
  | ⟨k, a, t, wh, n, u, o, w, l, f, s, ac, it, d, e, b⟩ => if Itm.may ⟨k, a, t, wh, n, u, o, w, l, f, s, ac, it, d, e, b⟩ = true then flawsR ⟨k, a, t, wh, n, u, o, w, l, f, s, ac, it, d, e, b⟩ ++ (if k = 11 then Itm.refs1 b else []) else [fw 1 tInvalid]
def Itm.refs1 : List Itm → List Fnd
  | [] => []
  | x :: _ => Itm.refs x
end
theorem Itm.refs_eq (x : Itm) : x.refs = if x.may = true then flawsR x ++ (if x.kind = 11 then Itm.refs1 x.by_ else []) else [fw 1 tInvalid] := by cases x; rw [Itm.refs]
theorem Itm.refs1_cons (x : Itm) (l : List Itm) : Itm.refs1 (x :: l) = x.refs := by rw [Itm.refs1]

/-! ### valid items -/
theorem may_pre {x : Itm} (h : x.may = true) : 0 ≤ x.kind ∧ x.kind ≤ 11 ∧ x = x.told ∧ x.own (Itm.mayOne x.by_) = true := by
  rw [Itm.may_eq, Bool.and_eq_true] at h
  obtain ⟨h1, h2⟩ := h
  unfold Itm.pre inR at h1
  simp only [Bool.and_eq_true, decide_eq_true_eq] at h1
  exact ⟨h1.1.1.1, h1.1.1.2, h1.1.2, h2⟩
theorem may_by {x : Itm} (h : x.may = true) (hk : x.kind ≠ 11) : x.by_ = [] := by
  obtain ⟨h0, h11, ht, _⟩ := may_pre h
  have e : x.by_ = x.told.by_ := congrArg Itm.by_ ht
  rw [e]
  have hh : x.kind = 0 ∨ x.kind = 1 ∨ x.kind = 2 ∨ x.kind = 3 ∨ x.kind = 4 ∨ x.kind = 5 ∨ x.kind = 6 ∨ x.kind = 7 ∨ x.kind = 8 ∨ x.kind = 9 ∨ x.kind = 10 := by omega
  rcases hh with hh | hh | hh | hh | hh | hh | hh | hh | hh | hh | hh <;> simp [Itm.told, Itm.just, iz, hh]
theorem may_wh {x : Itm} (h : x.may = true) (hk : x.kind = 0 ∨ x.kind = 6) : 0 ≤ x.wh ∧ x.wh ≤ 3 := by
  obtain ⟨_, _, _, ho⟩ := may_pre h
  unfold Itm.own at ho
  rcases hk with hk | hk
  · rw [if_pos hk] at ho
    unfold inR at ho
    simp only [Bool.and_eq_true, decide_eq_true_eq] at ho
    exact ho.1
  · rw [if_neg (by omega), if_neg (by omega), if_neg (by omega), if_neg (by omega), if_neg (by omega), if_pos hk] at ho
    unfold inR at ho
    simp only [Bool.and_eq_true, decide_eq_true_eq] at ho
    exact ho.1
theorem may_label {x : Itm} (h : x.may = true) (hk : x.kind = 5) : x.label ≠ [] := by
  obtain ⟨_, _, _, ho⟩ := may_pre h
  unfold Itm.own at ho
  rw [if_neg (by omega), if_neg (by omega), if_neg (by omega), if_neg (by omega), if_pos hk] at ho
  intro e
  rw [e] at ho
  exact absurd ho (by decide)
theorem may_one {x : Itm} (h : x.may = true) (hk : x.kind = 11) : ∃ y, x.by_ = [y] ∧ y.may = true := by
  obtain ⟨_, _, _, ho⟩ := may_pre h
  unfold Itm.own at ho
  rw [if_neg (by omega), if_neg (by omega), if_neg (by omega), if_neg (by omega), if_neg (by omega), if_neg (by omega), if_neg (by omega), if_neg (by omega), if_pos hk] at ho
  simp only [Bool.and_eq_true] at ho
  have hm := ho.2.2
  rcases hb : x.by_ with _ | ⟨y, _ | ⟨z, l⟩⟩
  · rw [hb, Itm.mayOne] at hm; cases hm
  · rw [hb, Itm.mayOne_cons] at hm
    simp only [Bool.and_eq_true] at hm
    exact ⟨y, rfl, hm.2⟩
  · rw [hb, Itm.mayOne_cons] at hm
    simp at hm
theorem bes_eq {x : Itm} (h : x.may = true) (hk : x.kind = 0 ∨ x.kind = 6) : bes x = besR x := by
  have := may_wh h hk
  unfold bes besR
  rw [Bool.eq_iff_iff]
  simp only [Bool.or_eq_true, decide_eq_true_eq]
  omega
theorem flaws_eq {x : Itm} (h : x.may = true) : flawsP x = flawsR x := by
  have e1 : rule1 x = ruleR1 x := by
    unfold rule1 ruleR1
    by_cases h0 : x.kind = 0
    · rw [bes_eq h (.inl h0)]; simp [h0, Bool.and_comm]
    · by_cases h6 : x.kind = 6
      · rw [bes_eq h (.inr h6)]; simp [h6]
      · simp [h0, h6, Bool.and_comm, Bool.and_assoc, Bool.and_left_comm]
  have e2 : rule2 x = ruleR2 x := by
    unfold rule2 ruleR2 ins
    by_cases h0 : x.kind = 0
    · rw [bes_eq h (.inl h0)]; simp [h0]
    · by_cases h6 : x.kind = 6
      · rw [bes_eq h (.inr h6)]; simp [h6]
      · simp [h0, h6]
  have e3 : rule3 x = ruleR3 x := by
    unfold rule3 ruleR3 ins
    by_cases h6 : x.kind = 6
    · rw [bes_eq h (.inr h6)]; simp [h6]
    · simp [h6]
  have e4 : rule4 x = ruleR4 x := by
    unfold rule4 ruleR4
    by_cases h6 : x.kind = 6
    · rw [bes_eq h (.inr h6)]
    · simp [h6]
  have e5 : rule5 x = ruleR5 x := by
    unfold rule5 ruleR5
    by_cases h5 : x.kind = 5
    · cases hb : isBook x.at_ with
      | true =>
        have : (lastStp x.at_).label = [] := by unfold lastStp; rw [hb]; rfl
        rw [this]
        have h2 := may_label h h5
        have h3 : ¬ ([] : List UInt8) = x.label := fun e => h2 e.symm
        simp [h3]
      | false => simp
    · simp [h5]
  unfold flawsP flawsR
  rw [e1, e2, e3, e4, e5]
theorem finds_refs : ∀ x : Itm, x.finds = x.refs := by
  refine Itm.ind fun x ih => ?_
  rw [Itm.finds_eq, Itm.refs_eq]
  by_cases hm : x.may = true
  · rw [if_pos hm, if_pos hm, flaws_eq hm]
    by_cases hk : x.kind = 11
    · obtain ⟨y, hy, _⟩ := may_one hm hk
      rw [if_pos hk, hy, Itm.findss_cons, Itm.findss_nil, List.append_nil, Itm.refs1_cons, ih y (by rw [hy]; simp)]
    · rw [if_neg hk, may_by hm hk, Itm.findss_nil]
  · rw [if_neg hm, if_neg hm]
end Go.Av
end

section
namespace Go.Av
open Go Go.RowKit Go.Proofs
set_option linter.unusedSimpArgs false
set_option linter.unusedVariables false

section
variable (G : Glob) (hG : GOk G)

theorem f84 (a b : List (List UInt8)) (ha : a.length < 9000000000000000000) : Pure G Tryz.prog 84 [.lst 1 (a.map srow), .lst 1 (b.map srow)] (.bool (decide (a = b))) := by
  refine Pure.w c84 fun R hR => ?_
  unfold s84 r84
  (repeat' (first | (with_reducible refine CALL_pure (f91 G _ _ ha) ?_) | simp -dsimp -implicitDefEqProofs only [EV1, EV2, EV3, EV4, EV5, seval, ↓reduceIte, reduceCtorEq, eq_self, Option.map_some, decide_true, decide_false, EV6, EV7]))
  (all_goals ((exact RET.eq hR rfl)))
theorem f74 (x : Itm) : Pure G Tryz.prog 74 [.agg x.cs] (.bool (rule1 x)) := by
  have hb := f76 G x
  have h1 := f75 G x.at_
  have h2 := f75 G x.to_
  refine Pure.w c74 fun R hR => ?_
  unfold s74 r74
  unfold rule1 bes at hR
  generalize isBook x.at_ = q1 at *
  generalize isBook x.to_ = q2 at *
  generalize (decide (x.wh = 2) || decide (x.wh = 3)) = q3 at *
  (repeat' (first | (with_reducible (refine gd_case (fun h => ?_) (fun h => ?_)) <;> (try simp only [Da, Db, Dc, Dd, De, Df, Dg, Dh] at h)) | (with_reducible refine CALL_pure (hb) ?_) | (with_reducible refine CALL_pure (h1) ?_) | (with_reducible refine CALL_pure (h2) ?_) | simp -dsimp -implicitDefEqProofs only [EV1, EV2, EV3, EV4, EV5, seval, ↓reduceIte, reduceCtorEq, eq_self, Option.map_some, decide_true, decide_false, EV6, EV7] | (exfalso; omega)))
  all_goals (refine RET.eq hR (congrArg AV.bool ?_); first | (simp [*]; done) | (rw [decide_eq_false (by omega)]; simp_all))
include hG in
theorem f77 (x : Itm) (q : x.Short1) : Pure G Tryz.prog 77 [.agg x.cs] (.bool (rule2 x)) := by
  have hi := fun k => f78 G x k
  have h1 := f80 G x.at_ q.at_
  have h2 := f80 G x.to_ q.to_
  have hn := f79 G hG
  rw [stp_cs] at h1 h2
  refine Pure.w c77 fun R hR => ?_
  unfold s77 r77
  unfold rule2 ins bes at hR
  have hi0 := hi 0
  have hi6 := hi 6
  clear hi
  generalize (decide (x.wh = 2) || decide (x.wh = 3)) = b at *
  (repeat' (first | (with_reducible (refine gd_case (fun h => ?_) (fun h => ?_)) <;> (try simp only [Da, Db, Dc, Dd, De, Df, Dg, Dh] at h)) | (with_reducible refine CALL_pure (hi0) ?_) | (with_reducible refine CALL_pure (hi6) ?_) | (with_reducible refine CALL_pure (h1) ?_) | (with_reducible refine CALL_pure (h2) ?_) | (with_reducible refine CALL_pure (hn _ _) ?_) | simp -dsimp -implicitDefEqProofs only [EV1, EV2, EV3, EV4, EV5, seval, ↓reduceIte, reduceCtorEq, eq_self, Option.map_some, decide_true, decide_false, EV6, EV7]))
  all_goals (refine RET.eq hR (congrArg AV.bool ?_); ((simp [*]; done)))
theorem f81 (x : Itm) (q : x.Short1) : Pure G Tryz.prog 81 [.agg x.cs] (.bool (rule3 x)) := by
  have hi := f78 G x 6
  have he := f82 G x.at_ x.to_ (by have := q.at_; omega)
  refine Pure.w c81 fun R hR => ?_
  unfold s81 r81
  unfold rule3 ins bes at hR
  generalize decide (x.at_ = x.to_) = q1 at *
  generalize (decide (x.kind = 6) && !(decide (x.wh = 2) || decide (x.wh = 3))) = q2 at *
  (repeat' (first | (with_reducible (refine gd_case (fun h => ?_) (fun h => ?_)) <;> (try simp only [Da, Db, Dc, Dd, De, Df, Dg, Dh] at h)) | (with_reducible refine CALL_pure (hi) ?_) | (with_reducible refine CALL_pure (he) ?_) | simp -dsimp -implicitDefEqProofs only [EV1, EV2, EV3, EV4, EV5, seval, ↓reduceIte, reduceCtorEq, eq_self, Option.map_some, decide_true, decide_false, EV6, EV7]))
  (all_goals (((refine RET.eq hR ?_; ((simp_all []; done))))))
theorem f83 (x : Itm) (q : x.Short1) : Pure G Tryz.prog 83 [.agg x.cs] (.bool (rule4 x)) := by
  have hb := f76 G x
  have he := f82 G x.at_ x.to_ (by have := q.at_; omega)
  have hw := f84 G x.old x.new (by have := q.old; omega)
  refine Pure.w c83 fun R hR => ?_
  unfold s83 r83
  unfold rule4 bes at hR
  generalize decide (x.at_ = x.to_) = q1 at *
  generalize decide (x.old = x.new) = q2 at *
  generalize (decide (x.wh = 2) || decide (x.wh = 3)) = q3 at *
  (repeat' (first | (with_reducible (refine gd_case (fun h => ?_) (fun h => ?_)) <;> (try simp only [Da, Db, Dc, Dd, De, Df, Dg, Dh] at h)) | (with_reducible refine CALL_pure (hb) ?_) | (with_reducible refine CALL_pure (he) ?_) | (with_reducible refine CALL_pure (hw) ?_) | simp -dsimp -implicitDefEqProofs only [EV1, EV2, EV3, EV4, EV5, seval, ↓reduceIte, reduceCtorEq, eq_self, Option.map_some, decide_true, decide_false, EV6, EV7] | (exfalso; omega)))
  (all_goals (first | (refine RET.eq hR ?_; (refine congrArg AV.bool (Bool.eq_iff_iff.2 ?_); simp only [EVB] at *; omega)) | (refine RET.eq hR ?_; ((simp_all []; done)))))
theorem f85 (x : Itm) (q : x.Short1) : Pure G Tryz.prog 85 [.agg x.cs] (.bool (rule5 x)) := by
  have h1 := f80 G x.at_ q.at_
  rw [stp_cs] at h1
  refine Pure.w c85 fun R hR => ?_
  unfold s85 r85
  (repeat' (first | (with_reducible (refine gd_case (fun h => ?_) (fun h => ?_)) <;> (try simp only [Da, Db, Dc, Dd, De, Df, Dg, Dh] at h)) | (with_reducible refine CALL_pure (h1) ?_) | simp -dsimp -implicitDefEqProofs only [EV1, EV2, EV3, EV4, EV5, seval, ↓reduceIte, reduceCtorEq, eq_self, Option.map_some, decide_true, decide_false, EV6, EV7]))
  all_goals (refine RET.eq hR (congrArg AV.bool ?_); ((simp [rule5, *]; done)))
end
end Go.Av
end
