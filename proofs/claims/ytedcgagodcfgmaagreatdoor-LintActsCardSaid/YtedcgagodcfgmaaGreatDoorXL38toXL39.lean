/-
  LINT, 38: the findings for an item.
-/
import Derived.Test.YtedcgagodcfgmaaGreatDoorXL37toXL53
import Derived.Test.YtedcgagodcfgmaaGreatDoorXL25toXAv29
section
namespace Go.Av
open Go Go.RowKit Go.Proofs
set_option linter.unusedSimpArgs false
set_option linter.unusedVariables false

theorem optF_len (b : Bool) (f : Fnd) : (optF b f).length ≤ 1 := by unfold optF; split <;> simp
theorem flawsP_len (x : Itm) : (flawsP x).length ≤ 5 := by
  unfold flawsP
  simp only [List.length_append]
  have h1 := optF_len (rule1 x) (fw 9 tBook)
  have h2 := optF_len (rule2 x) (fw 9 tContain)
  have h3 := optF_len (rule3 x) (fw 9 tSelf)
  have h4 := optF_len (rule4 x) (fw 11 tNoEffect)
  have h5 := optF_len (rule5 x) (fw 10 tOwnLabel)
  omega
theorem one_kind {x y : Itm} (h : x.may = true) (hb : x.by_ = [y]) (hk : x.kind = 11) : y.kind ≤ 6 := by
  obtain ⟨_, _, _, ho⟩ := may_pre h
  unfold Itm.own at ho
  rw [if_neg (by omega), if_neg (by omega), if_neg (by omega), if_neg (by omega), if_neg (by omega), if_neg (by omega), if_neg (by omega), if_neg (by omega), if_pos hk] at ho
  simp only [Bool.and_eq_true] at ho
  have hm := ho.2.2
  rw [hb, Itm.mayOne_cons] at hm
  unfold inR at hm
  simp only [Bool.and_eq_true, decide_eq_true_eq] at hm
  exact hm.1.2.2
theorem finds_len (x : Itm) : x.finds.length ≤ 10 := by
  rw [Itm.finds_eq]
  split
  · rename_i hm
    have h1 := flawsP_len x
    by_cases hk : x.kind = 11
    · obtain ⟨y, hy, hym⟩ := may_one hm hk
      have hyk := one_kind hm hy hk
      have h2 := flawsP_len y
      rw [hy, Itm.findss_cons, Itm.findss_nil, Itm.finds_eq, if_pos hym, may_by hym (by omega), Itm.findss_nil]
      simp only [List.length_append, List.length_nil]
      omega
    · rw [may_by hm hk, Itm.findss_nil, List.append_nil]; omega
  · simp
theorem refs_len (x : Itm) : x.refs.length ≤ 10 := by rw [← finds_refs]; exact finds_len x

/-- The table's rows, and what they say of an item. -/
structure Fl where
  why : Int
  text : List UInt8
  fn : Nat
  yes : Bool
def Fl.row (p : Fl) : List AV := faultRow p.why p.text p.fn
def flOf (x : Itm) : List Fl := [⟨9, tBook, 74, rule1 x⟩, ⟨9, tContain, 77, rule2 x⟩, ⟨9, tSelf, 81, rule3 x⟩, ⟨11, tNoEffect, 83, rule4 x⟩, ⟨10, tOwnLabel, 85, rule5 x⟩]
def flF (l : List Fl) : List Fnd := l.flatMap fun p => optF p.yes (fw p.why p.text)
theorem flF_of (x : Itm) : flF (flOf x) = flawsP x := by simp [flF, flOf, flawsP]
theorem flF_cons (p : Fl) (l : List Fl) : flF (p :: l) = optF p.yes (fw p.why p.text) ++ flF l := by simp [flF]
theorem fl_rows (x : Itm) : (flOf x).map Fl.row = faultRows := rfl
theorem fl_cells (p : Fl) : p.row = [.int .i64 p.why, .str p.text, .sc (.func (.func p.fn) #[] #[])] := rfl
theorem fw_cs (w : Int) (t : List UInt8) : (fw w t).cs = [.int .i64 0, .int .i64 0, .int .i64 0, .int .i64 0, .int .i64 w, .str t] := rfl

section
variable (G : Glob) (hG : GOk G)
include hG

theorem fl_calls (x : Itm) (q : x.Short1) : ∀ p ∈ flOf x, Pure G Tryz.prog p.fn [.agg x.cs] (.bool p.yes) := by
  intro p hp
  simp only [flOf, List.mem_cons, List.not_mem_nil, or_false] at hp
  rcases hp with rfl | rfl | rfl | rfl | rfl
  · exact f74 G x
  · exact f77 G hG x q
  · exact f81 G x q
  · exact f83 G x q
  · exact f85 G x q

set_option maxHeartbeats 2000000 in
theorem f12o : ∀ x : Itm, x.Shorts → FnSpec G Tryz.prog 12 [.agg x.cs] [] (Opn 46 6 (x.finds.map Fnd.cs)) := by
  refine Itm.ind fun x ih hs => ?_
  obtain ⟨q, hby⟩ := (Itm.Shorts_eq x).1 hs
  have hV := f30 G hG x hs
  have hF := f31 G
  have hcalls := fl_calls G hG x q
  have hbl : x.by_.length < 1000000000000000000 := ((Itm.fit_eq x).1 q.fit).2.2.2.2.2.1
  have hfl := finds_len x
  rw [Itm.finds_eq] at hfl
  refine FnSpec.wo c12 fun R hR => ?_
  unfold s12 r12
  rw [Itm.finds_eq] at hR
  by_cases hm : x.may = true
  · rw [hm] at hV
    rw [if_pos hm] at hR hfl
    rw [List.length_append] at hfl
    rw [← fl_rows x] at hF
    (repeat' (first | (with_reducible (first | refine split_case (fun h => ?_) (fun h => ?_) | refine gd_case (fun h => ?_) (fun h => ?_) | refine pick_case (fun h => ?_) (fun h => ?_)) <;> (try simp only [Da, Db, Dc, Dd, De, Df, Dg, Dh] at h)) | (with_reducible refine And.intro (by omega) ?_) | (with_reducible refine CALL_pure (hV) ?_) | (with_reducible refine CALL_pure (hF) ?_) | simp -dsimp -implicitDefEqProofs only [EV1, EV2, EV3, EV4, EV5, seval, ↓reduceIte, reduceCtorEq, eq_self, Option.map_some, decide_true, decide_false, EV6, EV7] | (with_reducible intro blk hblk; (try (have hnx := hblk; simp only [EVK] at hnx; first | (have hne := And.intro hnx hne) | (have hne := hnx)))) | (with_reducible refine both_case ?_ ?_) | (with_reducible refine same_case ?_) | (exfalso; omega)))
    refine W_list (ι := Option Nat × List Fnd) (flOf x) (fun i r c => flawsP x = c.2 ++ flF r) (fun i c => [(1, .ref x.cs), (3, .own c.1 46 6 (c.2.map Fnd.cs)), (13, .lst 3 ((flOf x).map Fl.row)), (14, .int .i64 5), (15, .int .i64 i)])
      (fun i c => tokS c.1 46 (c.2.length * 6)) (none, []) (by rw [flF_of]; rfl) (Weak.of (by simp [EnvLe, Env.get, AVle, AVle1, flOf]) (SubN.refl _)) (by simp [flOf]) (fun i p r c hok hx hw => ?_) (fun c hok hn => ?_)
    · have hpc := hcalls p hx.mem
      have hl5 := flawsP_len x
      rw [hok, flF_cons] at hl5
      simp only [List.length_append] at hl5
      have hyes : decide ((i : Int) < 5) = true := hx.yes
      have hlt5 : (i : Int) < 5 := hx.lt'
      rw [flF_cons] at hok
      cases hy : p.yes with
      | false =>
        rw [hy] at hpc hok
        (repeat' (first | (with_reducible (first | refine split_case (fun h => ?_) (fun h => ?_) | refine gd_case (fun h => ?_) (fun h => ?_) | refine pick_case (fun h => ?_) (fun h => ?_)) <;> (try simp only [Da, Db, Dc, Dd, De, Df, Dg, Dh] at h)) | (with_reducible refine And.intro (by omega) ?_) | (with_reducible refine CALL_pure (hpc) ?_) | simp -dsimp -implicitDefEqProofs only [EV1, EV2, EV3, EV4, EV5, seval, ↓reduceIte, reduceCtorEq, eq_self, Option.map_some, decide_true, decide_false, EV6, EV7, hx.yes, hyes, hlt5, hx.le0, hx.lt', hx.get, hx.row, hw, fl_cells, hne] | simp -dsimp -implicitDefEqProofs only [EV1, EV2, EV3, EV4, EV5, seval, ↓reduceIte, reduceCtorEq, eq_self, Option.map_some, decide_true, decide_false, EV6, EV7, hx.yes, hyes, hlt5, hx.le0, hx.lt', hx.get, hx.row, hw, fl_cells] | (with_reducible intro blk hblk; (try (have hnx := hblk; simp only [EVK] at hnx; first | (have hne := And.intro hnx hne) | (have hne := hnx)))) | (with_reducible refine both_case ?_ ?_) | (with_reducible refine same_case ?_) | (exfalso; omega)))
        refine LK_next hx c (by rw [hok]; rfl) (Weak.sub ⟨fun q hq => List.mem_cons_of_mem _ hq, fun hn => by simp only [Store.keys, List.map_cons, List.nodup_cons] at hn; exact hn.2⟩)
      | true =>
        rw [hy] at hpc hok
        (repeat' (first | (with_reducible (first | refine split_case (fun h => ?_) (fun h => ?_) | refine gd_case (fun h => ?_) (fun h => ?_) | refine pick_case (fun h => ?_) (fun h => ?_)) <;> (try simp only [Da, Db, Dc, Dd, De, Df, Dg, Dh] at h)) | (with_reducible refine And.intro (by omega) ?_) | (with_reducible refine CALL_pure (hpc) ?_) | simp -dsimp -implicitDefEqProofs only [EV1, EV2, EV3, EV4, EV5, seval, ↓reduceIte, reduceCtorEq, eq_self, Option.map_some, decide_true, decide_false, EV6, EV7, hx.yes, hyes, hlt5, hx.le0, hx.lt', hx.get, hx.row, hw, fl_cells, hne] | simp -dsimp -implicitDefEqProofs only [EV1, EV2, EV3, EV4, EV5, seval, ↓reduceIte, reduceCtorEq, eq_self, Option.map_some, decide_true, decide_false, EV6, EV7, hx.yes, hyes, hlt5, hx.le0, hx.lt', hx.get, hx.row, hw, fl_cells] | (with_reducible intro blk hblk; (try (have hnx := hblk; simp only [EVK] at hnx; first | (have hne := And.intro hnx hne) | (have hne := hnx)))) | (with_reducible refine both_case ?_ ?_) | (with_reducible refine same_case ?_) | (refine app_row (n := c.2.length) (m' := (c.2.length + 1) * 6) (by first | exact tok_get | exact tok_get_cons (by assumption)) (by simp) rfl rfl rfl (by assumption) (by omega) (fun gn => ?_)) | (exfalso; omega)))
        refine LK_next hx (gn, c.2 ++ [fw p.why p.text]) (by rw [hok, List.append_assoc]; rfl) (by simp only [List.map_append, List.map_cons, List.map_nil, fw_cs, List.length_append, List.length_cons, List.length_nil, Nat.zero_add]; exact Weak.rfl' _ _)
    · have hn5 : decide (((flOf x).length : Int) < 5) = false := hn
      (repeat' (first | (with_reducible (first | refine split_case (fun h => ?_) (fun h => ?_) | refine gd_case (fun h => ?_) (fun h => ?_) | refine pick_case (fun h => ?_) (fun h => ?_)) <;> (try simp only [Da, Db, Dc, Dd, De, Df, Dg, Dh] at h)) | (with_reducible refine And.intro (by omega) ?_)  | simp -dsimp -implicitDefEqProofs only [EV1, EV2, EV3, EV4, EV5, seval, ↓reduceIte, reduceCtorEq, eq_self, Option.map_some, decide_true, decide_false, EV6, EV7, hn, hn5] | (with_reducible intro blk hblk; (try (have hnx := hblk; simp only [EVK] at hnx; first | (have hne := And.intro hnx hne) | (have hne := hnx)))) | (with_reducible refine both_case ?_ ?_) | (with_reducible refine same_case ?_) | (exfalso; omega)))
      have e0 : flawsP x = c.2 := by rw [hok]; simp [flF]
      refine W_list (ι := Option Nat × List Fnd) x.by_ (fun i r d => flawsP x ++ Itm.findss x.by_ = d.2 ++ Itm.findss r) (fun i d => [(3, .own d.1 46 6 (d.2.map Fnd.cs)), (33, .lst 25 (x.by_.map Itm.cs)), (34, .int .i64 x.by_.length), (35, .int .i64 i)])
        (fun i d => tokS d.1 46 (d.2.length * 6)) c (by rw [e0]) (Weak.rfl' _ _) (by omega) (fun i y r d hok hx hw => ?_) (fun d hok hn => ?_)
      · have hy := (ih y hx.mem (hby y hx.mem)).lst
        have hlen := congrArg List.length hok
        rw [Itm.findss_cons] at hok hlen
        simp only [List.length_append] at hlen hfl
        (repeat' (first | (with_reducible (first | refine split_case (fun h => ?_) (fun h => ?_) | refine gd_case (fun h => ?_) (fun h => ?_) | refine pick_case (fun h => ?_) (fun h => ?_)) <;> (try simp only [Da, Db, Dc, Dd, De, Df, Dg, Dh] at h)) | (with_reducible refine And.intro (by omega) ?_) | (with_reducible refine CALL_pure (hy) ?_) | simp -dsimp -implicitDefEqProofs only [EV1, EV2, EV3, EV4, EV5, seval, ↓reduceIte, reduceCtorEq, eq_self, Option.map_some, decide_true, decide_false, EV6, EV7, hx.yes, hx.le0, hx.lt', hx.get, hx.row, hw] | (with_reducible intro blk hblk; (try (have hnx := hblk; simp only [EVK] at hnx; first | (have hne := And.intro hnx hne) | (have hne := hnx)))) | (with_reducible refine both_case ?_ ?_) | (with_reducible refine same_case ?_) | (refine app_lst (m' := (d.2.length + y.finds.length) * 6) (by first | exact tok_get | exact tok_get_cons (by assumption)) (by simp) (by simp) (by simp; omega) (fun gn => ?_)) | (exfalso; omega)))
        refine LK_next hx (gn, d.2 ++ y.finds) (by rw [hok, List.append_assoc]) (by simp only [List.map_append, List.length_append]; exact Weak.rfl' _ _)
      · (repeat' (first | (with_reducible (first | refine split_case (fun h => ?_) (fun h => ?_) | refine gd_case (fun h => ?_) (fun h => ?_) | refine pick_case (fun h => ?_) (fun h => ?_)) <;> (try simp only [Da, Db, Dc, Dd, De, Df, Dg, Dh] at h)) | (with_reducible refine And.intro (by omega) ?_)  | simp -dsimp -implicitDefEqProofs only [EV1, EV2, EV3, EV4, EV5, seval, ↓reduceIte, reduceCtorEq, eq_self, Option.map_some, decide_true, decide_false, EV6, EV7, hn] | (with_reducible intro blk hblk; (try (have hnx := hblk; simp only [EVK] at hnx; first | (have hne := And.intro hnx hne) | (have hne := hnx)))) | (with_reducible refine both_case ?_ ?_) | (with_reducible refine same_case ?_) | (exfalso; omega)))
        exact hR _ _ _ (by rw [hok, Itm.findss_nil, List.append_nil]) (by rw [List.length_map]; exact SubN.refl _)
  · have hm2 : x.may = false := by simpa using hm
    rw [hm2] at hV
    rw [if_neg hm] at hR
    (repeat' (first | (with_reducible (first | refine split_case (fun h => ?_) (fun h => ?_) | refine gd_case (fun h => ?_) (fun h => ?_) | refine pick_case (fun h => ?_) (fun h => ?_)) <;> (try simp only [Da, Db, Dc, Dd, De, Df, Dg, Dh] at h)) | (with_reducible refine And.intro (by omega) ?_) | (with_reducible refine CALL_pure (hV) ?_) | simp -dsimp -implicitDefEqProofs only [EV1, EV2, EV3, EV4, EV5, seval, ↓reduceIte, reduceCtorEq, eq_self, Option.map_some, decide_true, decide_false, EV6, EV7] | (with_reducible intro blk hblk; (try (have hnx := hblk; simp only [EVK] at hnx; first | (have hne := And.intro hnx hne) | (have hne := hnx)))) | (with_reducible refine both_case ?_ ?_) | (with_reducible refine same_case ?_) | (refine ⟨[(fw 1 tInvalid).cs], rfl, (by simp [fw_cs]), rfl, ?_⟩) | (exfalso; omega)))
    exact hR _ _ _ rfl (SubN.refl _)
theorem f12 (x : Itm) (hs : x.Shorts) : Pure G Tryz.prog 12 [.agg x.cs] (.lst 6 (x.finds.map Fnd.cs)) := (f12o G hG x hs).lst
end
end Go.Av
end

section
namespace Go.Av
open Go Go.RowKit Go.Proofs
set_option linter.unusedSimpArgs false
set_option linter.unusedVariables false

section
variable (G : Glob)

set_option maxHeartbeats 4000000 in
set_option maxRecDepth 100000 in
theorem item_1 (x : Itm) (hs : x.Shorts) (hm : x.may = true) (hk : x.kind = 1) : FnSpec G Tryz.prog 13 [.agg x.cs] [] (Opn 46 6 (x.refs.map Fnd.cs)) := by
  obtain ⟨q, hby⟩ := (Itm.Shorts_eq x).1 hs
  have hM := f20 G x hs
  rw [hm] at hM
  have hb := f34 G x
  have h1 := f33 G x.at_
  have h2 := f33 G x.to_
  have hl1 := f36 G x.at_ q.at_
  have hl2 := f36 G x.to_ q.to_
  have he := f37 G x.at_ x.to_ (by have := q.at_; omega)
  have hw := f38 G x.old x.new (by have := q.old; omega)
  have hn := f35 G
  refine FnSpec.wo c13 fun R hR => ?_
  unfold s13 r13
  rw [Itm.refs_eq, if_pos hm] at hR
  have e1 : flawsR x = optF (isBook x.at_) (fw 9 tBook) := by
    unfold flawsR ruleR1 ruleR2 ruleR3 ruleR4 ruleR5 besR optF
    simp [hk]
  rw [e1, if_neg (by omega), List.append_nil] at hR
  (repeat' (first | (with_reducible (first | refine split_case (fun h => ?_) (fun h => ?_) | refine gd_case (fun h => ?_) (fun h => ?_) | refine pick_case (fun h => ?_) (fun h => ?_)) <;> (try simp only [Da, Db, Dc, Dd, De, Df, Dg, Dh] at h)) | (with_reducible refine And.intro (by omega) ?_) | (with_reducible refine CALL_pure (hM) ?_) | (with_reducible refine CALL_pure (h1) ?_) | (with_reducible refine CALL_pure (f32 G _ _) ?_) | simp -dsimp -implicitDefEqProofs only [EV1, EV2, EV3, EV4, EV5, seval, ↓reduceIte, reduceCtorEq, eq_self, Option.map_some, decide_true, decide_false, EV6, EV7, hk] | (with_reducible intro blk hblk; (try (have hnx := hblk; simp only [EVK] at hnx; first | (have hne := And.intro hnx hne) | (have hne := hnx)))) | (with_reducible refine both_case ?_ ?_) | (with_reducible refine same_case ?_) | (refine ⟨[], rfl, (by simp), rfl, ?_⟩) | (refine app_row (by first | exact one_tok | exact tok_get) rfl (by first | rfl | simp) rfl rfl (by assumption) (by simp) (fun gn => ?_)) | (exfalso; omega)))
  all_goals (refine hR _ _ _ (by simp [optF, fw_cs, tBook, tContain, tSelf, tNoEffect, tOwnLabel, *]; done) ?_; exact SubN.refl _)

set_option maxHeartbeats 4000000 in
set_option maxRecDepth 100000 in
theorem item_2 (x : Itm) (hs : x.Shorts) (hm : x.may = true) (hk : x.kind = 2) : FnSpec G Tryz.prog 13 [.agg x.cs] [] (Opn 46 6 (x.refs.map Fnd.cs)) := by
  obtain ⟨q, hby⟩ := (Itm.Shorts_eq x).1 hs
  have hM := f20 G x hs
  rw [hm] at hM
  have hb := f34 G x
  have h1 := f33 G x.at_
  have h2 := f33 G x.to_
  have hl1 := f36 G x.at_ q.at_
  have hl2 := f36 G x.to_ q.to_
  have he := f37 G x.at_ x.to_ (by have := q.at_; omega)
  have hw := f38 G x.old x.new (by have := q.old; omega)
  have hn := f35 G
  refine FnSpec.wo c13 fun R hR => ?_
  unfold s13 r13
  rw [Itm.refs_eq, if_pos hm] at hR
  have e1 : flawsR x = optF (isBook x.at_) (fw 9 tBook) ++ optF (decide (x.old = x.new)) (fw 11 tNoEffect) := by
    unfold flawsR ruleR1 ruleR2 ruleR3 ruleR4 ruleR5 besR optF
    simp [hk]
  rw [e1, if_neg (by omega), List.append_nil] at hR
  (repeat' (first | (with_reducible (first | refine split_case (fun h => ?_) (fun h => ?_) | refine gd_case (fun h => ?_) (fun h => ?_) | refine pick_case (fun h => ?_) (fun h => ?_)) <;> (try simp only [Da, Db, Dc, Dd, De, Df, Dg, Dh] at h)) | (with_reducible refine And.intro (by omega) ?_) | (with_reducible refine CALL_pure (hM) ?_) | (with_reducible refine CALL_pure (h1) ?_) | (with_reducible refine CALL_pure (hw) ?_) | (with_reducible refine CALL_pure (f32 G _ _) ?_) | simp -dsimp -implicitDefEqProofs only [EV1, EV2, EV3, EV4, EV5, seval, ↓reduceIte, reduceCtorEq, eq_self, Option.map_some, decide_true, decide_false, EV6, EV7, hk] | (with_reducible intro blk hblk; (try (have hnx := hblk; simp only [EVK] at hnx; first | (have hne := And.intro hnx hne) | (have hne := hnx)))) | (with_reducible refine both_case ?_ ?_) | (with_reducible refine same_case ?_) | (refine ⟨[], rfl, (by simp), rfl, ?_⟩) | (refine app_row (by first | exact one_tok | exact tok_get) rfl (by first | rfl | simp) rfl rfl (by assumption) (by simp) (fun gn => ?_)) | (exfalso; omega)))
  all_goals (refine hR _ _ _ (by simp [optF, fw_cs, tBook, tContain, tSelf, tNoEffect, tOwnLabel, *]; done) ?_; exact SubN.refl _)

set_option maxHeartbeats 4000000 in
set_option maxRecDepth 100000 in
theorem item_3 (x : Itm) (hs : x.Shorts) (hm : x.may = true) (hk : x.kind = 3) : FnSpec G Tryz.prog 13 [.agg x.cs] [] (Opn 46 6 (x.refs.map Fnd.cs)) := by
  obtain ⟨q, hby⟩ := (Itm.Shorts_eq x).1 hs
  have hM := f20 G x hs
  rw [hm] at hM
  have hb := f34 G x
  have h1 := f33 G x.at_
  have h2 := f33 G x.to_
  have hl1 := f36 G x.at_ q.at_
  have hl2 := f36 G x.to_ q.to_
  have he := f37 G x.at_ x.to_ (by have := q.at_; omega)
  have hw := f38 G x.old x.new (by have := q.old; omega)
  have hn := f35 G
  refine FnSpec.wo c13 fun R hR => ?_
  unfold s13 r13
  rw [Itm.refs_eq, if_pos hm] at hR
  have e1 : flawsR x = optF (isBook x.at_) (fw 9 tBook) := by
    unfold flawsR ruleR1 ruleR2 ruleR3 ruleR4 ruleR5 besR optF
    simp [hk]
  rw [e1, if_neg (by omega), List.append_nil] at hR
  (repeat' (first | (with_reducible (first | refine split_case (fun h => ?_) (fun h => ?_) | refine gd_case (fun h => ?_) (fun h => ?_) | refine pick_case (fun h => ?_) (fun h => ?_)) <;> (try simp only [Da, Db, Dc, Dd, De, Df, Dg, Dh] at h)) | (with_reducible refine And.intro (by omega) ?_) | (with_reducible refine CALL_pure (hM) ?_) | (with_reducible refine CALL_pure (h1) ?_) | (with_reducible refine CALL_pure (f32 G _ _) ?_) | simp -dsimp -implicitDefEqProofs only [EV1, EV2, EV3, EV4, EV5, seval, ↓reduceIte, reduceCtorEq, eq_self, Option.map_some, decide_true, decide_false, EV6, EV7, hk] | (with_reducible intro blk hblk; (try (have hnx := hblk; simp only [EVK] at hnx; first | (have hne := And.intro hnx hne) | (have hne := hnx)))) | (with_reducible refine both_case ?_ ?_) | (with_reducible refine same_case ?_) | (refine ⟨[], rfl, (by simp), rfl, ?_⟩) | (refine app_row (by first | exact one_tok | exact tok_get) rfl (by first | rfl | simp) rfl rfl (by assumption) (by simp) (fun gn => ?_)) | (exfalso; omega)))
  all_goals (refine hR _ _ _ (by simp [optF, fw_cs, tBook, tContain, tSelf, tNoEffect, tOwnLabel, *]; done) ?_; exact SubN.refl _)

set_option maxHeartbeats 4000000 in
set_option maxRecDepth 100000 in
theorem item_4 (x : Itm) (hs : x.Shorts) (hm : x.may = true) (hk : x.kind = 4) : FnSpec G Tryz.prog 13 [.agg x.cs] [] (Opn 46 6 (x.refs.map Fnd.cs)) := by
  obtain ⟨q, hby⟩ := (Itm.Shorts_eq x).1 hs
  have hM := f20 G x hs
  rw [hm] at hM
  have hb := f34 G x
  have h1 := f33 G x.at_
  have h2 := f33 G x.to_
  have hl1 := f36 G x.at_ q.at_
  have hl2 := f36 G x.to_ q.to_
  have he := f37 G x.at_ x.to_ (by have := q.at_; omega)
  have hw := f38 G x.old x.new (by have := q.old; omega)
  have hn := f35 G
  refine FnSpec.wo c13 fun R hR => ?_
  unfold s13 r13
  rw [Itm.refs_eq, if_pos hm] at hR
  have e1 : flawsR x = optF (isBook x.at_) (fw 9 tBook) := by
    unfold flawsR ruleR1 ruleR2 ruleR3 ruleR4 ruleR5 besR optF
    simp [hk]
  rw [e1, if_neg (by omega), List.append_nil] at hR
  (repeat' (first | (with_reducible (first | refine split_case (fun h => ?_) (fun h => ?_) | refine gd_case (fun h => ?_) (fun h => ?_) | refine pick_case (fun h => ?_) (fun h => ?_)) <;> (try simp only [Da, Db, Dc, Dd, De, Df, Dg, Dh] at h)) | (with_reducible refine And.intro (by omega) ?_) | (with_reducible refine CALL_pure (hM) ?_) | (with_reducible refine CALL_pure (h1) ?_) | (with_reducible refine CALL_pure (f32 G _ _) ?_) | simp -dsimp -implicitDefEqProofs only [EV1, EV2, EV3, EV4, EV5, seval, ↓reduceIte, reduceCtorEq, eq_self, Option.map_some, decide_true, decide_false, EV6, EV7, hk] | (with_reducible intro blk hblk; (try (have hnx := hblk; simp only [EVK] at hnx; first | (have hne := And.intro hnx hne) | (have hne := hnx)))) | (with_reducible refine both_case ?_ ?_) | (with_reducible refine same_case ?_) | (refine ⟨[], rfl, (by simp), rfl, ?_⟩) | (refine app_row (by first | exact one_tok | exact tok_get) rfl (by first | rfl | simp) rfl rfl (by assumption) (by simp) (fun gn => ?_)) | (exfalso; omega)))
  all_goals (refine hR _ _ _ (by simp [optF, fw_cs, tBook, tContain, tSelf, tNoEffect, tOwnLabel, *]; done) ?_; exact SubN.refl _)

set_option maxHeartbeats 4000000 in
set_option maxRecDepth 100000 in
theorem item_7 (x : Itm) (hs : x.Shorts) (hm : x.may = true) (hk : x.kind = 7) : FnSpec G Tryz.prog 13 [.agg x.cs] [] (Opn 46 6 (x.refs.map Fnd.cs)) := by
  obtain ⟨q, hby⟩ := (Itm.Shorts_eq x).1 hs
  have hM := f20 G x hs
  rw [hm] at hM
  have hb := f34 G x
  have h1 := f33 G x.at_
  have h2 := f33 G x.to_
  have hl1 := f36 G x.at_ q.at_
  have hl2 := f36 G x.to_ q.to_
  have he := f37 G x.at_ x.to_ (by have := q.at_; omega)
  have hw := f38 G x.old x.new (by have := q.old; omega)
  have hn := f35 G
  refine FnSpec.wo c13 fun R hR => ?_
  unfold s13 r13
  rw [Itm.refs_eq, if_pos hm] at hR
  have e1 : flawsR x = [] := by
    unfold flawsR ruleR1 ruleR2 ruleR3 ruleR4 ruleR5 besR optF
    simp [hk]
  rw [e1, if_neg (by omega), List.append_nil] at hR
  (repeat' (first | (with_reducible (first | refine split_case (fun h => ?_) (fun h => ?_) | refine gd_case (fun h => ?_) (fun h => ?_) | refine pick_case (fun h => ?_) (fun h => ?_)) <;> (try simp only [Da, Db, Dc, Dd, De, Df, Dg, Dh] at h)) | (with_reducible refine And.intro (by omega) ?_) | (with_reducible refine CALL_pure (hM) ?_) | (with_reducible refine CALL_pure (f32 G _ _) ?_) | simp -dsimp -implicitDefEqProofs only [EV1, EV2, EV3, EV4, EV5, seval, ↓reduceIte, reduceCtorEq, eq_self, Option.map_some, decide_true, decide_false, EV6, EV7, hk] | (with_reducible intro blk hblk; (try (have hnx := hblk; simp only [EVK] at hnx; first | (have hne := And.intro hnx hne) | (have hne := hnx)))) | (with_reducible refine both_case ?_ ?_) | (with_reducible refine same_case ?_) | (refine ⟨[], rfl, (by simp), rfl, ?_⟩) | (refine app_row (by first | exact one_tok | exact tok_get) rfl (by first | rfl | simp) rfl rfl (by assumption) (by simp) (fun gn => ?_)) | (exfalso; omega)))
  all_goals (refine hR _ _ _ (by simp [optF, fw_cs, tBook, tContain, tSelf, tNoEffect, tOwnLabel, *]; done) ?_; exact SubN.refl _)
end
end Go.Av
end
