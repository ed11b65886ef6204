/-
  LINT, 40: the findings for an item by the reference.
-/
import Derived.Test.YtedcgagodcfgmaaGreatDoorXL38toXL39
section
namespace Go.Av
open Go Go.RowKit Go.Proofs
set_option linter.unusedSimpArgs false
set_option linter.unusedVariables false

section
variable (G : Glob)

set_option maxHeartbeats 4000000 in
set_option maxRecDepth 100000 in
theorem item_6_t (x : Itm) (hs : x.Shorts) (hm : x.may = true) (hk : x.kind = 6) (hq : decide (2 ≤ x.wh) = true) : FnSpec G Tryz.prog 13 [.agg x.cs] [] (Opn 46 6 (x.refs.map Fnd.cs)) := by
  obtain ⟨q, hby⟩ := (Itm.Shorts_eq x).1 hs
  have hM := f20 G x hs
  rw [hm] at hM
  have hb := f34 G x
  rw [hq] at hb
  have h1 := f33 G x.at_
  have h2 := f33 G x.to_
  have hl1 := f36 G x.at_ q.at_
  have hl2 := f36 G x.to_ q.to_
  have he := f37 G x.at_ x.to_ (by have := q.at_; omega)
  have hw := f38 G x.old x.new (by have := q.old; omega)
  have hn := f35 G
  refine FnSpec.wo c13 fun R hR => ?_
  unfold s13 r13
  rw [Itm.refs_eq, if_pos hm] at hR
  have e1 : flawsR x = optF (isBook x.at_ || isBook x.to_) (fw 9 tBook) ++ optF (decide (x.at_ = x.to_)) (fw 11 tNoEffect) := by
    unfold flawsR ruleR1 ruleR2 ruleR3 ruleR4 ruleR5 besR optF
    simp [hk, hq, of_decide_eq_true hq]
  rw [e1, if_neg (by omega), List.append_nil] at hR
  generalize decide (x.at_ = x.to_) = q4 at *
  (repeat' (first | (with_reducible (first | refine split_case (fun h => ?_) (fun h => ?_) | refine gd_case (fun h => ?_) (fun h => ?_)) <;> (try simp only [Da, Db, Dc, Dd, De, Df, Dg, Dh] at h)) | (with_reducible refine CALL_pure (hM) ?_) | (with_reducible refine CALL_pure (hb) ?_) | (with_reducible refine CALL_pure (h1) ?_) | (with_reducible refine CALL_pure (h2) ?_) | (with_reducible refine CALL_pure (he) ?_) | (with_reducible refine CALL_pure (f32 G _ _) ?_) | simp -dsimp -implicitDefEqProofs only [EV1, EV2, EV3, EV4, EV5, seval, ↓reduceIte, reduceCtorEq, eq_self, Option.map_some, decide_true, decide_false, EV6, EV7, hk] | (with_reducible intro blk hblk; (try (have hnx := hblk; simp only [EVK] at hnx; first | (have hne := And.intro hnx hne) | (have hne := hnx)))) | (refine ⟨[], rfl, (by simp), rfl, ?_⟩) | (refine app_row (by first | exact one_tok | exact tok_get) rfl (by rfl) rfl rfl (by assumption) (by simp) (fun gn => ?_))))
  all_goals (refine hR _ _ _ (by simp [optF, fw_cs, tBook, tContain, tSelf, tNoEffect, tOwnLabel, *]; done) ?_; exact SubN.refl _)

set_option maxHeartbeats 4000000 in
set_option maxRecDepth 100000 in
theorem item_6_f (x : Itm) (hs : x.Shorts) (hm : x.may = true) (hk : x.kind = 6) (hq : decide (2 ≤ x.wh) = false) : FnSpec G Tryz.prog 13 [.agg x.cs] [] (Opn 46 6 (x.refs.map Fnd.cs)) := by
  obtain ⟨q, hby⟩ := (Itm.Shorts_eq x).1 hs
  have hM := f20 G x hs
  rw [hm] at hM
  have hb := f34 G x
  rw [hq] at hb
  have h1 := f33 G x.at_
  have h2 := f33 G x.to_
  have hl1 := f36 G x.at_ q.at_
  have hl2 := f36 G x.to_ q.to_
  have he := f37 G x.at_ x.to_ (by have := q.at_; omega)
  have hw := f38 G x.old x.new (by have := q.old; omega)
  have hn := f35 G
  refine FnSpec.wo c13 fun R hR => ?_
  unfold s13 r13
  rw [Itm.refs_eq, if_pos hm] at hR
  have e1 : flawsR x = optF (isBook x.at_) (fw 9 tBook) ++ (optF (!nests (lastStp x.to_).kind (lastStp x.at_).kind) (fw 9 tContain) ++ optF (decide (x.at_ = x.to_)) (fw 9 tSelf)) := by
    unfold flawsR ruleR1 ruleR2 ruleR3 ruleR4 ruleR5 besR optF
    simp [hk, hq, of_decide_eq_false hq]
  rw [e1, if_neg (by omega), List.append_nil] at hR
  generalize decide (x.at_ = x.to_) = q4 at *
  (repeat' (first | (with_reducible (first | refine split_case (fun h => ?_) (fun h => ?_) | refine gd_case (fun h => ?_) (fun h => ?_)) <;> (try simp only [Da, Db, Dc, Dd, De, Df, Dg, Dh] at h)) | (with_reducible refine CALL_pure (hM) ?_) | (with_reducible refine CALL_pure (hb) ?_) | (with_reducible refine CALL_pure (h1) ?_) | (with_reducible refine CALL_pure (hl1) ?_) | (with_reducible refine CALL_pure (hl2) ?_) | (with_reducible refine CALL_pure (he) ?_) | (with_reducible refine CALL_pure (hn _ _) ?_) | (with_reducible refine CALL_pure (f32 G _ _) ?_) | simp -dsimp -implicitDefEqProofs only [EV1, EV2, EV3, EV4, EV5, seval, ↓reduceIte, reduceCtorEq, eq_self, Option.map_some, decide_true, decide_false, EV6, EV7, hk] | (with_reducible intro blk hblk; (try (have hnx := hblk; simp only [EVK] at hnx; first | (have hne := And.intro hnx hne) | (have hne := hnx)))) | (refine ⟨[], rfl, (by simp), rfl, ?_⟩) | (refine app_row (by first | exact one_tok | exact tok_get) rfl (by rfl) rfl rfl (by assumption) (by simp) (fun gn => ?_))))
  all_goals (refine hR _ _ _ (by simp [optF, fw_cs, tBook, tContain, tSelf, tNoEffect, tOwnLabel, *]; done) ?_; exact SubN.refl _)
end
end Go.Av
end

section
namespace Go.Av
open Go Go.RowKit Go.Proofs
set_option linter.unusedSimpArgs false
set_option linter.unusedVariables false

section
variable (G : Glob)

set_option maxHeartbeats 4000000 in
set_option maxRecDepth 100000 in
theorem item_0_t (x : Itm) (hs : x.Shorts) (hm : x.may = true) (hk : x.kind = 0) (hq : decide (2 ≤ x.wh) = true) : FnSpec G Tryz.prog 13 [.agg x.cs] [] (Opn 46 6 (x.refs.map Fnd.cs)) := by
  obtain ⟨q, hby⟩ := (Itm.Shorts_eq x).1 hs
  have hM := f20 G x hs
  rw [hm] at hM
  have hb := f34 G x
  rw [hq] at hb
  have h1 := f33 G x.at_
  have h2 := f33 G x.to_
  have hl1 := f36 G x.at_ q.at_
  have hl2 := f36 G x.to_ q.to_
  have he := f37 G x.at_ x.to_ (by have := q.at_; omega)
  have hw := f38 G x.old x.new (by have := q.old; omega)
  have hn := f35 G
  refine FnSpec.wo c13 fun R hR => ?_
  unfold s13 r13
  rw [Itm.refs_eq, if_pos hm] at hR
  have e1 : flawsR x = optF (isBook x.at_) (fw 9 tBook) := by
    unfold flawsR ruleR1 ruleR2 ruleR3 ruleR4 ruleR5 besR optF
    simp [hk, hq, of_decide_eq_true hq]
  rw [e1, if_neg (by omega), List.append_nil] at hR
  (repeat' (first | (with_reducible (first | refine split_case (fun h => ?_) (fun h => ?_) | refine gd_case (fun h => ?_) (fun h => ?_) | refine pick_case (fun h => ?_) (fun h => ?_)) <;> (try simp only [Da, Db, Dc, Dd, De, Df, Dg, Dh] at h)) | (with_reducible refine And.intro (by omega) ?_) | (with_reducible refine CALL_pure (hM) ?_) | (with_reducible refine CALL_pure (hb) ?_) | (with_reducible refine CALL_pure (h1) ?_) | (with_reducible refine CALL_pure (hl1) ?_) | (with_reducible refine CALL_pure (f32 G _ _) ?_) | simp -dsimp -implicitDefEqProofs only [EV1, EV2, EV3, EV4, EV5, seval, ↓reduceIte, reduceCtorEq, eq_self, Option.map_some, decide_true, decide_false, EV6, EV7, hk] | (with_reducible intro blk hblk; (try (have hnx := hblk; simp only [EVK] at hnx; first | (have hne := And.intro hnx hne) | (have hne := hnx)))) | (with_reducible refine both_case ?_ ?_) | (with_reducible refine same_case ?_) | (refine ⟨[], rfl, (by simp), rfl, ?_⟩) | (refine app_row (by first | exact one_tok | exact tok_get) rfl (by first | rfl | simp) rfl rfl (by assumption) (by simp) (fun gn => ?_)) | (exfalso; omega)))
  all_goals (refine hR _ _ _ (by simp [optF, fw_cs, tBook, tContain, tSelf, tNoEffect, tOwnLabel, *]; done) ?_; exact SubN.refl _)

set_option maxHeartbeats 4000000 in
set_option maxRecDepth 100000 in
theorem item_0_f (x : Itm) (hs : x.Shorts) (hm : x.may = true) (hk : x.kind = 0) (hq : decide (2 ≤ x.wh) = false) : FnSpec G Tryz.prog 13 [.agg x.cs] [] (Opn 46 6 (x.refs.map Fnd.cs)) := by
  obtain ⟨q, hby⟩ := (Itm.Shorts_eq x).1 hs
  have hM := f20 G x hs
  rw [hm] at hM
  have hb := f34 G x
  rw [hq] at hb
  have h1 := f33 G x.at_
  have h2 := f33 G x.to_
  have hl1 := f36 G x.at_ q.at_
  have hl2 := f36 G x.to_ q.to_
  have he := f37 G x.at_ x.to_ (by have := q.at_; omega)
  have hw := f38 G x.old x.new (by have := q.old; omega)
  have hn := f35 G
  refine FnSpec.wo c13 fun R hR => ?_
  unfold s13 r13
  rw [Itm.refs_eq, if_pos hm] at hR
  have e1 : flawsR x = optF (!nests (lastStp x.at_).kind x.unit.kind) (fw 9 tContain) := by
    unfold flawsR ruleR1 ruleR2 ruleR3 ruleR4 ruleR5 besR optF
    simp [hk, hq, of_decide_eq_false hq]
  rw [e1, if_neg (by omega), List.append_nil] at hR
  (repeat' (first | (with_reducible (first | refine split_case (fun h => ?_) (fun h => ?_) | refine gd_case (fun h => ?_) (fun h => ?_) | refine pick_case (fun h => ?_) (fun h => ?_)) <;> (try simp only [Da, Db, Dc, Dd, De, Df, Dg, Dh] at h)) | (with_reducible refine And.intro (by omega) ?_) | (with_reducible refine CALL_pure (hM) ?_) | (with_reducible refine CALL_pure (hb) ?_) | (with_reducible refine CALL_pure (h1) ?_) | (with_reducible refine CALL_pure (hl1) ?_) | (with_reducible refine CALL_pure (hn _ _) ?_) | (with_reducible refine CALL_pure (f32 G _ _) ?_) | simp -dsimp -implicitDefEqProofs only [EV1, EV2, EV3, EV4, EV5, seval, ↓reduceIte, reduceCtorEq, eq_self, Option.map_some, decide_true, decide_false, EV6, EV7, hk] | (with_reducible intro blk hblk; (try (have hnx := hblk; simp only [EVK] at hnx; first | (have hne := And.intro hnx hne) | (have hne := hnx)))) | (with_reducible refine both_case ?_ ?_) | (with_reducible refine same_case ?_) | (refine ⟨[], rfl, (by simp), rfl, ?_⟩) | (refine app_row (by first | exact one_tok | exact tok_get) rfl (by first | rfl | simp) rfl rfl (by assumption) (by simp) (fun gn => ?_)) | (exfalso; omega)))
  all_goals (refine hR _ _ _ (by simp [optF, fw_cs, tBook, tContain, tSelf, tNoEffect, tOwnLabel, *]; done) ?_; exact SubN.refl _)

set_option maxHeartbeats 4000000 in
set_option maxRecDepth 100000 in
theorem item_8 (x : Itm) (hs : x.Shorts) (hm : x.may = true) (hk : x.kind = 8) : FnSpec G Tryz.prog 13 [.agg x.cs] [] (Opn 46 6 (x.refs.map Fnd.cs)) := by
  obtain ⟨q, hby⟩ := (Itm.Shorts_eq x).1 hs
  have hM := f20 G x hs
  rw [hm] at hM
  have hb := f34 G x
  have h1 := f33 G x.at_
  have h2 := f33 G x.to_
  have hl1 := f36 G x.at_ q.at_
  have hl2 := f36 G x.to_ q.to_
  have he := f37 G x.at_ x.to_ (by have := q.at_; omega)
  have hw := f38 G x.old x.new (by have := q.old; omega)
  have hn := f35 G
  refine FnSpec.wo c13 fun R hR => ?_
  unfold s13 r13
  rw [Itm.refs_eq, if_pos hm] at hR
  have e1 : flawsR x = [] := by
    unfold flawsR ruleR1 ruleR2 ruleR3 ruleR4 ruleR5 besR optF
    simp [hk]
  rw [e1, if_neg (by omega), List.append_nil] at hR
  (repeat' (first | (with_reducible (first | refine split_case (fun h => ?_) (fun h => ?_) | refine gd_case (fun h => ?_) (fun h => ?_) | refine pick_case (fun h => ?_) (fun h => ?_)) <;> (try simp only [Da, Db, Dc, Dd, De, Df, Dg, Dh] at h)) | (with_reducible refine And.intro (by omega) ?_) | (with_reducible refine CALL_pure (hM) ?_) | (with_reducible refine CALL_pure (f32 G _ _) ?_) | simp -dsimp -implicitDefEqProofs only [EV1, EV2, EV3, EV4, EV5, seval, ↓reduceIte, reduceCtorEq, eq_self, Option.map_some, decide_true, decide_false, EV6, EV7, hk] | (with_reducible intro blk hblk; (try (have hnx := hblk; simp only [EVK] at hnx; first | (have hne := And.intro hnx hne) | (have hne := hnx)))) | (with_reducible refine both_case ?_ ?_) | (with_reducible refine same_case ?_) | (refine ⟨[], rfl, (by simp), rfl, ?_⟩) | (refine app_row (by first | exact one_tok | exact tok_get) rfl (by first | rfl | simp) rfl rfl (by assumption) (by simp) (fun gn => ?_)) | (exfalso; omega)))
  all_goals (refine hR _ _ _ (by simp [optF, fw_cs, tBook, tContain, tSelf, tNoEffect, tOwnLabel, *]; done) ?_; exact SubN.refl _)

set_option maxHeartbeats 4000000 in
set_option maxRecDepth 100000 in
theorem item_9 (x : Itm) (hs : x.Shorts) (hm : x.may = true) (hk : x.kind = 9) : FnSpec G Tryz.prog 13 [.agg x.cs] [] (Opn 46 6 (x.refs.map Fnd.cs)) := by
  obtain ⟨q, hby⟩ := (Itm.Shorts_eq x).1 hs
  have hM := f20 G x hs
  rw [hm] at hM
  have hb := f34 G x
  have h1 := f33 G x.at_
  have h2 := f33 G x.to_
  have hl1 := f36 G x.at_ q.at_
  have hl2 := f36 G x.to_ q.to_
  have he := f37 G x.at_ x.to_ (by have := q.at_; omega)
  have hw := f38 G x.old x.new (by have := q.old; omega)
  have hn := f35 G
  refine FnSpec.wo c13 fun R hR => ?_
  unfold s13 r13
  rw [Itm.refs_eq, if_pos hm] at hR
  have e1 : flawsR x = [] := by
    unfold flawsR ruleR1 ruleR2 ruleR3 ruleR4 ruleR5 besR optF
    simp [hk]
  rw [e1, if_neg (by omega), List.append_nil] at hR
  (repeat' (first | (with_reducible (first | refine split_case (fun h => ?_) (fun h => ?_) | refine gd_case (fun h => ?_) (fun h => ?_) | refine pick_case (fun h => ?_) (fun h => ?_)) <;> (try simp only [Da, Db, Dc, Dd, De, Df, Dg, Dh] at h)) | (with_reducible refine And.intro (by omega) ?_) | (with_reducible refine CALL_pure (hM) ?_) | (with_reducible refine CALL_pure (f32 G _ _) ?_) | simp -dsimp -implicitDefEqProofs only [EV1, EV2, EV3, EV4, EV5, seval, ↓reduceIte, reduceCtorEq, eq_self, Option.map_some, decide_true, decide_false, EV6, EV7, hk] | (with_reducible intro blk hblk; (try (have hnx := hblk; simp only [EVK] at hnx; first | (have hne := And.intro hnx hne) | (have hne := hnx)))) | (with_reducible refine both_case ?_ ?_) | (with_reducible refine same_case ?_) | (refine ⟨[], rfl, (by simp), rfl, ?_⟩) | (refine app_row (by first | exact one_tok | exact tok_get) rfl (by first | rfl | simp) rfl rfl (by assumption) (by simp) (fun gn => ?_)) | (exfalso; omega)))
  all_goals (refine hR _ _ _ (by simp [optF, fw_cs, tBook, tContain, tSelf, tNoEffect, tOwnLabel, *]; done) ?_; exact SubN.refl _)

set_option maxHeartbeats 4000000 in
set_option maxRecDepth 100000 in
theorem item_10 (x : Itm) (hs : x.Shorts) (hm : x.may = true) (hk : x.kind = 10) : FnSpec G Tryz.prog 13 [.agg x.cs] [] (Opn 46 6 (x.refs.map Fnd.cs)) := by
  obtain ⟨q, hby⟩ := (Itm.Shorts_eq x).1 hs
  have hM := f20 G x hs
  rw [hm] at hM
  have hb := f34 G x
  have h1 := f33 G x.at_
  have h2 := f33 G x.to_
  have hl1 := f36 G x.at_ q.at_
  have hl2 := f36 G x.to_ q.to_
  have he := f37 G x.at_ x.to_ (by have := q.at_; omega)
  have hw := f38 G x.old x.new (by have := q.old; omega)
  have hn := f35 G
  refine FnSpec.wo c13 fun R hR => ?_
  unfold s13 r13
  rw [Itm.refs_eq, if_pos hm] at hR
  have e1 : flawsR x = [] := by
    unfold flawsR ruleR1 ruleR2 ruleR3 ruleR4 ruleR5 besR optF
    simp [hk]
  rw [e1, if_neg (by omega), List.append_nil] at hR
  (repeat' (first | (with_reducible (first | refine split_case (fun h => ?_) (fun h => ?_) | refine gd_case (fun h => ?_) (fun h => ?_) | refine pick_case (fun h => ?_) (fun h => ?_)) <;> (try simp only [Da, Db, Dc, Dd, De, Df, Dg, Dh] at h)) | (with_reducible refine And.intro (by omega) ?_) | (with_reducible refine CALL_pure (hM) ?_) | (with_reducible refine CALL_pure (f32 G _ _) ?_) | simp -dsimp -implicitDefEqProofs only [EV1, EV2, EV3, EV4, EV5, seval, ↓reduceIte, reduceCtorEq, eq_self, Option.map_some, decide_true, decide_false, EV6, EV7, hk] | (with_reducible intro blk hblk; (try (have hnx := hblk; simp only [EVK] at hnx; first | (have hne := And.intro hnx hne) | (have hne := hnx)))) | (with_reducible refine both_case ?_ ?_) | (with_reducible refine same_case ?_) | (refine ⟨[], rfl, (by simp), rfl, ?_⟩) | (refine app_row (by first | exact one_tok | exact tok_get) rfl (by first | rfl | simp) rfl rfl (by assumption) (by simp) (fun gn => ?_)) | (exfalso; omega)))
  all_goals (refine hR _ _ _ (by simp [optF, fw_cs, tBook, tContain, tSelf, tNoEffect, tOwnLabel, *]; done) ?_; exact SubN.refl _)
end
end Go.Av
end

section
namespace Go.Av
open Go Go.RowKit Go.Proofs
set_option linter.unusedSimpArgs false
set_option linter.unusedVariables false

theorem last_label {p : List Stp} (h : isBook p = false) : (lastStp p).label = (p.getLastD ⟨0, []⟩).label := by unfold lastStp; rw [h]; rfl
section
variable (G : Glob)
set_option maxHeartbeats 4000000 in
set_option maxRecDepth 100000 in
theorem item_5 (x : Itm) (hs : x.Shorts) (hm : x.may = true) (hk : x.kind = 5) : FnSpec G Tryz.prog 13 [.agg x.cs] [] (Opn 46 6 (x.refs.map Fnd.cs)) := by
  obtain ⟨q, hby⟩ := (Itm.Shorts_eq x).1 hs
  have hM := f20 G x hs
  rw [hm] at hM
  have h1 := f33 G x.at_
  have hal := q.at_
  refine FnSpec.wo c13 fun R hR => ?_
  unfold s13 r13
  rw [Itm.refs_eq, if_pos hm] at hR
  have e1 : flawsR x = optF (isBook x.at_) (fw 9 tBook) ++ optF (!isBook x.at_ && decide ((lastStp x.at_).label = x.label)) (fw 10 tOwnLabel) := by
    unfold flawsR ruleR1 ruleR2 ruleR3 ruleR4 ruleR5 besR optF
    simp [hk]
  rw [e1, if_neg (by omega), List.append_nil] at hR
  cases hb : isBook x.at_ with
  | true =>
    rw [hb] at h1 hR
    (repeat' (first | (with_reducible refine CALL_pure (hM) ?_) | (with_reducible refine CALL_pure (h1) ?_) | (with_reducible refine CALL_pure (f32 G _ _) ?_) | simp -dsimp -implicitDefEqProofs only [EV1, EV2, EV3, EV4, EV5, seval, ↓reduceIte, reduceCtorEq, eq_self, Option.map_some, decide_true, decide_false, EV6, EV7, hk] | (with_reducible intro blk hblk; (try (have hnx := hblk; simp only [EVK] at hnx; first | (have hne := And.intro hnx hne) | (have hne := hnx)))) | (refine ⟨[], rfl, (by simp), rfl, ?_⟩) | (refine app_row (by exact one_tok) rfl (by rfl) rfl rfl (by assumption) (by simp) (fun gn => ?_))))
    all_goals (refine hR _ _ _ (by simp [optF, fw_cs, tBook, tContain, tSelf, tNoEffect, tOwnLabel, *]; done) ?_; exact SubN.refl _)
  | false =>
    have hne := not_book_ne hb
    have hl : 0 < x.at_.length := List.length_pos_iff.2 hne
    have hw : IntKind.i64.wrap ((x.at_.length : Int) - 1) = ((x.at_.length - 1 : Nat) : Int) := by rw [wrap_i64 (by omega) (by omega)]; omega
    have hlr := last_row x.at_ hne
    rw [last_label hb] at hR
    rw [hb] at h1 hR
    generalize (x.at_.getLastD ⟨0, []⟩).label = L at *
    (repeat' (first | (with_reducible (refine split_case (fun h => ?_) (fun h => ?_)) <;> (try simp only [Da, Db, Dc, Dd, De, Df, Dg, Dh] at h)) | (with_reducible refine And.intro (by omega) ?_) | (with_reducible refine CALL_pure (hM) ?_) | (with_reducible refine CALL_pure (h1) ?_) | (with_reducible refine CALL_pure (f32 G _ _) ?_) | simp -dsimp -implicitDefEqProofs only [EV1, EV2, EV3, EV4, EV5, seval, ↓reduceIte, reduceCtorEq, eq_self, Option.map_some, decide_true, decide_false, EV6, EV7, hk, hw, hlr] | (with_reducible intro blk hblk; (try (have hnx := hblk; simp only [EVK] at hnx; (have hne := And.intro hnx hne)))) | (refine ⟨[], rfl, (by simp), rfl, ?_⟩) | (refine app_row (by exact one_tok) rfl (by rfl) rfl rfl (by assumption) (by simp) (fun gn => ?_))))
    all_goals (refine hR _ _ _ (by simp [optF, fw_cs, tBook, tContain, tSelf, tNoEffect, tOwnLabel, *]; done) ?_; exact SubN.refl _)

set_option maxHeartbeats 4000000 in
set_option maxRecDepth 100000 in
theorem item_11 (x : Itm) (hs : x.Shorts) (hm : x.may = true) (hk : x.kind = 11) (ih : ∀ y ∈ x.by_, Pure G Tryz.prog 13 [.agg y.cs] (.lst 6 (y.refs.map Fnd.cs))) : FnSpec G Tryz.prog 13 [.agg x.cs] [] (Opn 46 6 (x.refs.map Fnd.cs)) := by
  have hM := f20 G x hs
  rw [hm] at hM
  obtain ⟨y, hy, _⟩ := may_one hm hk
  have hi := ih y (by rw [hy]; simp)
  have hlen := refs_len y
  refine FnSpec.wo c13 fun R hR => ?_
  unfold s13 r13
  rw [Itm.refs_eq, if_pos hm] at hR
  have e1 : flawsR x = [] := by
    unfold flawsR ruleR1 ruleR2 ruleR3 ruleR4 ruleR5 besR optF
    simp [hk]
  rw [e1, if_pos hk, List.nil_append, hy, Itm.refs1_cons] at hR
  (repeat' (first | (with_reducible refine CALL_pure (hM) ?_) | (with_reducible refine CALL_pure (hi) ?_) | simp -dsimp -implicitDefEqProofs only [EV1, EV2, EV3, EV4, EV5, seval, ↓reduceIte, reduceCtorEq, eq_self, Option.map_some, decide_true, decide_false, EV6, EV7, hk, hy, List.map_cons, List.map_nil, List.length_cons, List.length_nil, List.getD_cons_zero] | (with_reducible intro blk hblk; (try (have hnx := hblk; simp only [EVK] at hnx; (have hne := hnx)))) | (refine ⟨[], rfl, (by simp), rfl, ?_⟩) | (refine app_lst (by exact one_tok) (by rfl) rfl (by simp only [List.length_map, List.length_nil]; omega) (fun gn => ?_))))
  exact hR _ _ _ rfl (by ((simp only [List.length_append, List.length_map, List.length_nil, Nat.zero_add]; exact SubN.refl _)))
end
end Go.Av
end

section
namespace Go.Av
open Go Go.RowKit Go.Proofs
set_option linter.unusedSimpArgs false
set_option linter.unusedVariables false

section
variable (G : Glob)
theorem f13o : ∀ x : Itm, x.Shorts → FnSpec G Tryz.prog 13 [.agg x.cs] [] (Opn 46 6 (x.refs.map Fnd.cs)) := by
  refine Itm.ind fun x ih hs => ?_
  by_cases hm : x.may = true
  · obtain ⟨h0, h11, _, _⟩ := may_pre hm
    have hh : x.kind = 0 ∨ x.kind = 1 ∨ x.kind = 2 ∨ x.kind = 3 ∨ x.kind = 4 ∨ x.kind = 5 ∨ x.kind = 6 ∨ x.kind = 7 ∨ x.kind = 8 ∨ x.kind = 9 ∨ x.kind = 10 ∨ x.kind = 11 := by omega
    rcases hh with h | h | h | h | h | h | h | h | h | h | h | h
    · cases hq : decide (2 ≤ x.wh) with
      | true => exact item_0_t G x hs hm h hq
      | false => exact item_0_f G x hs hm h hq
    · exact item_1 G x hs hm h
    · exact item_2 G x hs hm h
    · exact item_3 G x hs hm h
    · exact item_4 G x hs hm h
    · exact item_5 G x hs hm h
    · cases hq : decide (2 ≤ x.wh) with
      | true => exact item_6_t G x hs hm h hq
      | false => exact item_6_f G x hs hm h hq
    · exact item_7 G x hs hm h
    · exact item_8 G x hs hm h
    · exact item_9 G x hs hm h
    · exact item_10 G x hs hm h
    · exact item_11 G x hs hm h fun y hy => (ih y hy (((Itm.Shorts_eq x).1 hs).2 y hy)).lst
  · have hM := f20 G x hs
    have hm2 : x.may = false := by simpa using hm
    rw [hm2] at hM
    refine FnSpec.wo c13 fun R hR => ?_
    unfold s13 r13
    rw [Itm.refs_eq, if_neg hm] at hR
    (repeat' (first | (with_reducible (first | refine split_case (fun h => ?_) (fun h => ?_) | refine gd_case (fun h => ?_) (fun h => ?_) | refine pick_case (fun h => ?_) (fun h => ?_)) <;> (try simp only [Da, Db, Dc, Dd, De, Df, Dg, Dh] at h)) | (with_reducible refine And.intro (by omega) ?_) | (with_reducible refine CALL_pure (hM) ?_) | (with_reducible refine CALL_pure (f32 G _ _) ?_) | simp -dsimp -implicitDefEqProofs only [EV1, EV2, EV3, EV4, EV5, seval, ↓reduceIte, reduceCtorEq, eq_self, Option.map_some, decide_true, decide_false, EV6, EV7] | (with_reducible intro blk hblk; (try (have hnx := hblk; simp only [EVK] at hnx; first | (have hne := And.intro hnx hne) | (have hne := hnx)))) | (with_reducible refine both_case ?_ ?_) | (with_reducible refine same_case ?_) | (refine ⟨[(fw 1 tInvalid).cs], rfl, (by simp [fw_cs]), rfl, ?_⟩) | (exfalso; omega)))
    exact hR _ _ _ rfl (SubN.refl _)
/-- An act of which nothing is filled in. -/
def zActCs : List AV := [.int .i64 0, .str [], .int .i64 0, .int .i64 0, .int .i64 0, .str [], .nil]
theorem valid_zero : Pure G Tryz.prog 39 [.agg zActCs] (.bool false) := by
  refine Pure.w c39 fun R hR => ?_
  unfold s39 r39 zActCs
  (repeat' (first | (with_reducible (first | refine split_case (fun h => ?_) (fun h => ?_) | refine gd_case (fun h => ?_) (fun h => ?_) | refine pick_case (fun h => ?_) (fun h => ?_)) <;> (try simp only [Da, Db, Dc, Dd, De, Df, Dg, Dh] at h)) | (with_reducible refine And.intro (by omega) ?_)  | simp -dsimp -implicitDefEqProofs only [EV1, EV2, EV3, EV4, EV5, seval, ↓reduceIte, reduceCtorEq, eq_self, Option.map_some, decide_true, decide_false, EV6, EV7] | (with_reducible intro blk hblk; (try (have hnx := hblk; simp only [EVK] at hnx; first | (have hne := And.intro hnx hne) | (have hne := hnx)))) | (with_reducible refine both_case ?_ ?_) | (with_reducible refine same_case ?_) | (exfalso; omega)))
  (all_goals (first | (exact RET.eq hR rfl) | rfl | (refine RET.eq hR ?_; (refine congrArg AV.bool (Bool.eq_iff_iff.2 ?_); simp only [EVB] at *; omega)) | (refine RET.eq hR ?_; first | (simp only [hok, h, EVC, decide_true, decide_false]; done) | (simp only [hok, EVC, decide_true, decide_false]; done) | (simp only [hok, EVC, decide_true, decide_false]; refine congrArg AV.bool (decide_eq_decide.2 ?_); omega) | (simp_all []; done) | (simp_all []; omega) | grind | (norm_cast at *; simp_all []; done) | (norm_cast at *; simp_all []; omega)) | (refine hR _ _ (Or.inl (Or.inr ⟨rfl, ?_⟩)); simp []; done) | (refine hR _ _ (Or.inr ?_); simp [*, AVleL, AVle1, Itm.cs_eq, U.cs_eq, ]; done) | (rw [hok]; simp only [h, EVC, decide_true, decide_false]; done) | (rw [hok]; simp only [EVC, decide_true, decide_false]; done) | (simp_all []; done) | (simp_all []; omega) | grind | (norm_cast at *; simp_all []; done) | (norm_cast at *; simp_all []; omega)))
def actFnd : Fnd := ⟨-1, ⟨0, 0, 0⟩, 1, [97, 99, 116]⟩
theorem check_zero : Pure G Tryz.prog 15 [.agg zActCs] (.lst 6 [actFnd.cs]) := by
  have hV := valid_zero G
  refine Pure.w c15 fun R hR => ?_
  unfold s15 r15
  unfold zActCs at *
  (repeat' (first | (with_reducible (first | refine split_case (fun h => ?_) (fun h => ?_) | refine gd_case (fun h => ?_) (fun h => ?_) | refine pick_case (fun h => ?_) (fun h => ?_)) <;> (try simp only [Da, Db, Dc, Dd, De, Df, Dg, Dh] at h)) | (with_reducible refine And.intro (by omega) ?_) | (with_reducible refine CALL_pure (hV) ?_) | simp -dsimp -implicitDefEqProofs only [EV1, EV2, EV3, EV4, EV5, seval, ↓reduceIte, reduceCtorEq, eq_self, Option.map_some, decide_true, decide_false, EV6, EV7] | (with_reducible intro blk hblk; (try (have hnx := hblk; simp only [EVK] at hnx; first | (have hne := And.intro hnx hne) | (have hne := hnx)))) | (with_reducible refine both_case ?_ ?_) | (with_reducible refine same_case ?_) | (refine ⟨[actFnd.cs], rfl, (by simp [actFnd, Fnd.cs]), rfl, ?_⟩) | (exfalso; omega)))
  exact hR _ _ (Or.inl (Or.inr ⟨rfl, rfl⟩))
end
end Go.Av
end
