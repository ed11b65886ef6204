/-
  LINT, P4: the findings for an act, in plain Lean.
-/
import Derived.Test.YtedcgagodcfgmaaGreatDoorXL25toXL50
import Derived.Test.YtedcgagodcfgmaaGreatDoorXP2toXL52
section
namespace Go.Av
open Go Go.RowKit Go.Proofs
set_option linter.unusedSimpArgs false
set_option linter.unusedVariables false

def tMissing : List UInt8 := [110, 111, 32, 115, 117, 99, 104, 32, 105, 116, 101, 109]
def tNotAm : List UInt8 := [110, 111, 116, 32, 97, 110, 32, 97, 109, 101, 110, 100, 109, 101, 110, 116]
def tDup : List UInt8 := [100, 117, 112, 108, 105, 99, 97, 116, 101]
def ownB (a : Ac) (x : Itm) : Bool := (decide (x.kind = 7) || (decide (x.kind = 8) || (decide (x.kind = 9) || decide (x.kind = 11)))) && decide (x.act = a.number)
def misB (a : Ac) (x : Itm) : Bool := decide ((a.items.length : Int) ≤ x.item)
def notB (a : Ac) (x : Itm) : Bool := decide (0 ≤ x.item) && !inR (a.items.getD x.item.toNat iz).kind 0 6
def ownF (a : Ac) (x : Itm) : List Fnd := if ownB a x then (if misB a x then [fw 4 tMissing] else optF (notB a x) (fw 9 tNotAm)) else []
def dupB (a : Ac) (i : Nat) (x : Itm) : Bool := (a.items.take i).any fun y => decide (y = x)
def Ac.fnds (a : Ac) (i : Nat) (x : Itm) : List Fnd := x.finds ++ (optF (dupB a i x) (fw 5 tDup) ++ ownF a x)
def Fnd.put (n : Int) (f : Fnd) : Fnd := { f with at_ := n }
def Ac.chkFrom (a : Ac) : Nat → List Itm → List Fnd
  | _, [] => []
  | i, x :: r => (a.fnds i x).map (Fnd.put i) ++ a.chkFrom (i + 1) r
def actFnd0 : Fnd := ⟨-1, ⟨0, 0, 0⟩, 1, [97, 99, 116]⟩
def Ac.chk (a : Ac) : List Fnd := if a.may then a.chkFrom 0 a.items else [actFnd0]
theorem ownF_len (a : Ac) (x : Itm) : (ownF a x).length ≤ 1 := by unfold ownF optF; split <;> (try split) <;> (try split) <;> simp
end Go.Av
end

section
namespace Go.Av
open Go Go.RowKit Go.Proofs
set_option linter.unusedSimpArgs false
set_option linter.unusedVariables false

def ownP (a : Ac) (x : Itm) : Fnd × Bool := if ownB a x then (if misB a x then (fw 4 tMissing, true) else if notB a x then (fw 9 tNotAm, true) else (fw 0 [], false)) else (fw 0 [], false)
theorem ownP_F (a : Ac) (x : Itm) : ownF a x = optF (ownP a x).2 (ownP a x).1 := by
  unfold ownF ownP
  split <;> (try split) <;> (try split) <;> simp_all [optF]
theorem itm_getD (l : List Itm) (n : Int) (h0 : 0 ≤ n) (h1 : n < l.length) : (l.map Itm.cs).getD n.toNat [] = (l.getD n.toNat iz).cs := by
  have h : n.toNat < l.length := by omega
  simp [List.getD, h]

section
variable (G : Glob)
theorem f43 (a : Ac) (x : Itm) (hl : a.items.length < 9000000000000000000) : Pure G Tryz.prog 43 [.agg a.cs, .agg x.cs] (.tup [.agg (ownP a x).1.cs, .bool (ownP a x).2]) := by
  have hN := f94 G x.kind
  have hb : ownB a x = ((decide (x.kind = 7) || decide (x.kind = 8) || decide (x.kind = 9) || decide (x.kind = 11)) && decide (x.act = a.number)) := by unfold ownB; simp only [Bool.or_assoc]
  unfold ownP at *
  rw [hb]
  generalize (decide (x.kind = 7) || decide (x.kind = 8) || decide (x.kind = 9) || decide (x.kind = 11)) = q at *
  refine Pure.w c43 fun R hR => ?_
  unfold s43 r43 Ac.cs
  unfold notB misB at hR
  by_cases h0 : 0 ≤ x.item
  · have e0 : decide (0 ≤ x.item) = true := decide_eq_true h0
    by_cases h1 : x.item < a.items.length
    · have e1 : decide ((a.items.length : Int) ≤ x.item) = false := decide_eq_false (by omega)
      have hg := itm_getD a.items x.item h0 h1
      rw [e0, e1] at hR
      generalize a.items.getD x.item.toNat iz = y at *
      have hI := f70 G y.kind
      generalize inR y.kind 0 6 = q2 at *
      (repeat' (first | (with_reducible (first | refine split_case (fun h => ?_) (fun h => ?_) | refine gd_case (fun h => ?_) (fun h => ?_)) <;> (try simp only [Da, Db, Dc, Dd, De, Df, Dg, Dh] at h)) | (with_reducible refine And.intro (by omega) ?_) | (with_reducible refine CALL_pure (hN) ?_) | (with_reducible refine CALL_pure (hI) ?_) | simp -dsimp -implicitDefEqProofs only [EV1, EV2, EV3, EV4, EV5, seval, ↓reduceIte, reduceCtorEq, eq_self, Option.map_some, decide_true, decide_false, EV6, EV7, hg] | (with_reducible intro blk hblk; (try (have hnx := hblk; simp only [EVK] at hnx; (have hne := hnx)))) | (exfalso; omega)))
      all_goals (refine hR _ _ (Or.inl (Or.inl ?_)))
      all_goals (clear hR; simp_all [fw, Fnd.cs, tMissing, tNotAm]; done)
    · have e1 : decide ((a.items.length : Int) ≤ x.item) = true := decide_eq_true (by omega)
      rw [e0, e1] at hR
      (repeat' (first | (with_reducible (first | refine split_case (fun h => ?_) (fun h => ?_) | refine gd_case (fun h => ?_) (fun h => ?_)) <;> (try simp only [Da, Db, Dc, Dd, De, Df, Dg, Dh] at h)) | (with_reducible refine And.intro (by omega) ?_) | (with_reducible refine CALL_pure (hN) ?_) | simp -dsimp -implicitDefEqProofs only [EV1, EV2, EV3, EV4, EV5, seval, ↓reduceIte, reduceCtorEq, eq_self, Option.map_some, decide_true, decide_false, EV6, EV7] | (with_reducible intro blk hblk; (try (have hnx := hblk; simp only [EVK] at hnx; (have hne := hnx)))) | (exfalso; omega)))
      all_goals (refine hR _ _ (Or.inl (Or.inl ?_)))
      all_goals (clear hR; simp_all [fw, Fnd.cs, tMissing, tNotAm]; done)
  · have e0 : decide (0 ≤ x.item) = false := decide_eq_false h0
    have e1 : decide ((a.items.length : Int) ≤ x.item) = false := decide_eq_false (by omega)
    rw [e0, e1] at hR
    (repeat' (first | (with_reducible (first | refine split_case (fun h => ?_) (fun h => ?_) | refine gd_case (fun h => ?_) (fun h => ?_)) <;> (try simp only [Da, Db, Dc, Dd, De, Df, Dg, Dh] at h)) | (with_reducible refine And.intro (by omega) ?_) | (with_reducible refine CALL_pure (hN) ?_) | simp -dsimp -implicitDefEqProofs only [EV1, EV2, EV3, EV4, EV5, seval, ↓reduceIte, reduceCtorEq, eq_self, Option.map_some, decide_true, decide_false, EV6, EV7] | (with_reducible intro blk hblk; (try (have hnx := hblk; simp only [EVK] at hnx; (have hne := hnx)))) | (exfalso; omega)))
    all_goals (refine hR _ _ (Or.inl (Or.inl ?_)))
    all_goals (clear hR; simp_all [fw, Fnd.cs, tMissing, tNotAm]; done)
end
end Go.Av
end

section
namespace Go.Av
open Go Go.RowKit Go.Proofs
set_option linter.unusedSimpArgs false
set_option linter.unusedVariables false

theorem optF_len (b : Bool) (f : Fnd) : (optF b f).length ≤ 1 := by unfold optF; split <;> simp
theorem flawsP_len (x : Itm) : (flawsP x).length ≤ 5 := by
  unfold flawsP
  simp only [List.length_append]
  have h1 := optF_len (rule1 x) (fw 9 tBook)
  have h2 := optF_len (rule2 x) (fw 9 tContain)
  have h3 := optF_len (rule3 x) (fw 9 tSelf)
  have h4 := optF_len (rule4 x) (fw 11 tNoEffect)
  have h5 := optF_len (rule5 x) (fw 10 tOwnLabel)
  omega
theorem one_kind {x y : Itm} (h : x.may = true) (hb : x.by_ = [y]) (hk : x.kind = 11) : y.kind ≤ 6 := by
  obtain ⟨_, _, _, ho⟩ := may_pre h
  unfold Itm.own at ho
  rw [if_neg (by omega), if_neg (by omega), if_neg (by omega), if_neg (by omega), if_neg (by omega), if_neg (by omega), if_neg (by omega), if_neg (by omega), if_pos hk] at ho
  simp only [Bool.and_eq_true] at ho
  have hm := ho.2.2
  rw [hb, Itm.mayOne_cons] at hm
  unfold inR at hm
  simp only [Bool.and_eq_true, decide_eq_true_eq] at hm
  exact hm.1.2.2
theorem finds_len (x : Itm) : x.finds.length ≤ 10 := by
  rw [Itm.finds_eq]
  split
  · rename_i hm
    have h1 := flawsP_len x
    by_cases hk : x.kind = 11
    · obtain ⟨y, hy, hym⟩ := may_one hm hk
      have hyk := one_kind hm hy hk
      have h2 := flawsP_len y
      rw [hy, Itm.findss_cons, Itm.findss_nil, Itm.finds_eq, if_pos hym, may_by hym (by omega), Itm.findss_nil]
      simp only [List.length_append, List.length_nil]
      omega
    · rw [may_by hm hk, Itm.findss_nil, List.append_nil]; omega
  · simp
/-- The table's rows, and what they say of an item. -/
structure Fl where
  why : Int
  text : List UInt8
  fn : Nat
  yes : Bool
def Fl.row (p : Fl) : List AV := faultRow p.why p.text p.fn
def flOf (x : Itm) : List Fl := [⟨9, tBook, 74, rule1 x⟩, ⟨9, tContain, 77, rule2 x⟩, ⟨9, tSelf, 81, rule3 x⟩, ⟨11, tNoEffect, 83, rule4 x⟩, ⟨10, tOwnLabel, 85, rule5 x⟩]
def flF (l : List Fl) : List Fnd := l.flatMap fun p => optF p.yes (fw p.why p.text)
theorem flF_of (x : Itm) : flF (flOf x) = flawsP x := by simp [flF, flOf, flawsP]
theorem flF_cons (p : Fl) (l : List Fl) : flF (p :: l) = optF p.yes (fw p.why p.text) ++ flF l := by simp [flF]
theorem fl_rows (x : Itm) : (flOf x).map Fl.row = faultRows := rfl
theorem fl_cells (p : Fl) : p.row = [.int .i64 p.why, .str p.text, .sc (.func (.func p.fn) #[] #[])] := rfl
theorem fw_cs (w : Int) (t : List UInt8) : (fw w t).cs = [.int .i64 0, .int .i64 0, .int .i64 0, .int .i64 0, .int .i64 w, .str t] := rfl

section
variable (G : Glob) (hG : GOk G)
include hG

theorem fl_calls (x : Itm) (q : x.Short1) : ∀ p ∈ flOf x, Pure G Tryz.prog p.fn [.agg x.cs] (.bool p.yes) := by
  intro p hp
  simp only [flOf, List.mem_cons, List.not_mem_nil, or_false] at hp
  rcases hp with rfl | rfl | rfl | rfl | rfl
  · exact f74 G x
  · exact f77 G hG x q
  · exact f81 G x q
  · exact f83 G x q
  · exact f85 G x q

set_option maxHeartbeats 2000000 in
theorem f12o : ∀ x : Itm, x.Shorts → FnSpec G Tryz.prog 12 [.agg x.cs] [] (Opn 46 6 (x.finds.map Fnd.cs)) := by
  refine Itm.ind fun x ih hs => ?_
  obtain ⟨q, hby⟩ := (Itm.Shorts_eq x).1 hs
  have hV := f30 G hG x hs
  have hF := f31 G
  have hcalls := fl_calls G hG x q
  have hbl : x.by_.length < 1000000000000000000 := ((Itm.fit_eq x).1 q.fit).2.2.2.2.2.1
  have hfl := finds_len x
  rw [Itm.finds_eq] at hfl
  refine FnSpec.wo c12 fun R hR => ?_
  unfold s12 r12
  rw [Itm.finds_eq] at hR
  by_cases hm : x.may = true
  · rw [hm] at hV
    rw [if_pos hm] at hR hfl
    rw [List.length_append] at hfl
    rw [← fl_rows x] at hF
    (repeat' (first | (with_reducible (first | refine split_case (fun h => ?_) (fun h => ?_) | refine gd_case (fun h => ?_) (fun h => ?_) | refine pick_case (fun h => ?_) (fun h => ?_)) <;> (try simp only [Da, Db, Dc, Dd, De, Df, Dg, Dh] at h)) | (with_reducible refine And.intro (by omega) ?_) | (with_reducible refine CALL_pure (hV) ?_) | (with_reducible refine CALL_pure (hF) ?_) | simp -dsimp -implicitDefEqProofs only [EV1, EV2, EV3, EV4, EV5, seval, ↓reduceIte, reduceCtorEq, eq_self, Option.map_some, decide_true, decide_false, EV6, EV7] | (with_reducible intro blk hblk; (try (have hnx := hblk; simp only [EVK] at hnx; first | (have hne := And.intro hnx hne) | (have hne := hnx)))) | (with_reducible refine both_case ?_ ?_) | (with_reducible refine same_case ?_) | (exfalso; omega)))
    refine W_list (ι := Option Nat × List Fnd) (flOf x) (fun i r c => flawsP x = c.2 ++ flF r) (fun i c => [(1, .ref x.cs), (3, .own c.1 46 6 (c.2.map Fnd.cs)), (13, .lst 3 ((flOf x).map Fl.row)), (14, .int .i64 5), (15, .int .i64 i)])
      (fun i c => tokS c.1 46 (c.2.length * 6)) (none, []) (by rw [flF_of]; rfl) (Weak.of (by simp [EnvLe, Env.get, AVle, AVle1, flOf]) (SubN.refl _)) (by simp [flOf]) (fun i p r c hok hx hw => ?_) (fun c hok hn => ?_)
    · have hpc := hcalls p hx.mem
      have hl5 := flawsP_len x
      rw [hok, flF_cons] at hl5
      simp only [List.length_append] at hl5
      have hyes : decide ((i : Int) < 5) = true := hx.yes
      have hlt5 : (i : Int) < 5 := hx.lt'
      rw [flF_cons] at hok
      cases hy : p.yes with
      | false =>
        rw [hy] at hpc hok
        (repeat' (first | (with_reducible (first | refine split_case (fun h => ?_) (fun h => ?_) | refine gd_case (fun h => ?_) (fun h => ?_) | refine pick_case (fun h => ?_) (fun h => ?_)) <;> (try simp only [Da, Db, Dc, Dd, De, Df, Dg, Dh] at h)) | (with_reducible refine And.intro (by omega) ?_) | (with_reducible refine CALL_pure (hpc) ?_) | simp -dsimp -implicitDefEqProofs only [EV1, EV2, EV3, EV4, EV5, seval, ↓reduceIte, reduceCtorEq, eq_self, Option.map_some, decide_true, decide_false, EV6, EV7, hx.yes, hyes, hlt5, hx.le0, hx.lt', hx.get, hx.row, hw, fl_cells, hne] | simp -dsimp -implicitDefEqProofs only [EV1, EV2, EV3, EV4, EV5, seval, ↓reduceIte, reduceCtorEq, eq_self, Option.map_some, decide_true, decide_false, EV6, EV7, hx.yes, hyes, hlt5, hx.le0, hx.lt', hx.get, hx.row, hw, fl_cells] | (with_reducible intro blk hblk; (try (have hnx := hblk; simp only [EVK] at hnx; first | (have hne := And.intro hnx hne) | (have hne := hnx)))) | (with_reducible refine both_case ?_ ?_) | (with_reducible refine same_case ?_) | (exfalso; omega)))
        refine LK_next hx c (by rw [hok]; rfl) (Weak.sub ⟨fun q hq => List.mem_cons_of_mem _ hq, fun hn => by simp only [Store.keys, List.map_cons, List.nodup_cons] at hn; exact hn.2⟩)
      | true =>
        rw [hy] at hpc hok
        (repeat' (first | (with_reducible (first | refine split_case (fun h => ?_) (fun h => ?_) | refine gd_case (fun h => ?_) (fun h => ?_) | refine pick_case (fun h => ?_) (fun h => ?_)) <;> (try simp only [Da, Db, Dc, Dd, De, Df, Dg, Dh] at h)) | (with_reducible refine And.intro (by omega) ?_) | (with_reducible refine CALL_pure (hpc) ?_) | simp -dsimp -implicitDefEqProofs only [EV1, EV2, EV3, EV4, EV5, seval, ↓reduceIte, reduceCtorEq, eq_self, Option.map_some, decide_true, decide_false, EV6, EV7, hx.yes, hyes, hlt5, hx.le0, hx.lt', hx.get, hx.row, hw, fl_cells, hne] | simp -dsimp -implicitDefEqProofs only [EV1, EV2, EV3, EV4, EV5, seval, ↓reduceIte, reduceCtorEq, eq_self, Option.map_some, decide_true, decide_false, EV6, EV7, hx.yes, hyes, hlt5, hx.le0, hx.lt', hx.get, hx.row, hw, fl_cells] | (with_reducible intro blk hblk; (try (have hnx := hblk; simp only [EVK] at hnx; first | (have hne := And.intro hnx hne) | (have hne := hnx)))) | (with_reducible refine both_case ?_ ?_) | (with_reducible refine same_case ?_) | (refine app_row (n := c.2.length) (m' := (c.2.length + 1) * 6) (by first | exact tok_get | exact tok_get_cons (by assumption)) (by simp) rfl rfl rfl (by assumption) (by omega) (fun gn => ?_)) | (exfalso; omega)))
        refine LK_next hx (gn, c.2 ++ [fw p.why p.text]) (by rw [hok, List.append_assoc]; rfl) (by simp only [List.map_append, List.map_cons, List.map_nil, fw_cs, List.length_append, List.length_cons, List.length_nil, Nat.zero_add]; exact Weak.rfl' _ _)
    · have hn5 : decide (((flOf x).length : Int) < 5) = false := hn
      (repeat' (first | (with_reducible (first | refine split_case (fun h => ?_) (fun h => ?_) | refine gd_case (fun h => ?_) (fun h => ?_) | refine pick_case (fun h => ?_) (fun h => ?_)) <;> (try simp only [Da, Db, Dc, Dd, De, Df, Dg, Dh] at h)) | (with_reducible refine And.intro (by omega) ?_)  | simp -dsimp -implicitDefEqProofs only [EV1, EV2, EV3, EV4, EV5, seval, ↓reduceIte, reduceCtorEq, eq_self, Option.map_some, decide_true, decide_false, EV6, EV7, hn, hn5] | (with_reducible intro blk hblk; (try (have hnx := hblk; simp only [EVK] at hnx; first | (have hne := And.intro hnx hne) | (have hne := hnx)))) | (with_reducible refine both_case ?_ ?_) | (with_reducible refine same_case ?_) | (exfalso; omega)))
      have e0 : flawsP x = c.2 := by rw [hok]; simp [flF]
      refine W_list (ι := Option Nat × List Fnd) x.by_ (fun i r d => flawsP x ++ Itm.findss x.by_ = d.2 ++ Itm.findss r) (fun i d => [(3, .own d.1 46 6 (d.2.map Fnd.cs)), (33, .lst 25 (x.by_.map Itm.cs)), (34, .int .i64 x.by_.length), (35, .int .i64 i)])
        (fun i d => tokS d.1 46 (d.2.length * 6)) c (by rw [e0]) (Weak.rfl' _ _) (by omega) (fun i y r d hok hx hw => ?_) (fun d hok hn => ?_)
      · have hy := (ih y hx.mem (hby y hx.mem)).lst
        have hlen := congrArg List.length hok
        rw [Itm.findss_cons] at hok hlen
        simp only [List.length_append] at hlen hfl
        (repeat' (first | (with_reducible (first | refine split_case (fun h => ?_) (fun h => ?_) | refine gd_case (fun h => ?_) (fun h => ?_) | refine pick_case (fun h => ?_) (fun h => ?_)) <;> (try simp only [Da, Db, Dc, Dd, De, Df, Dg, Dh] at h)) | (with_reducible refine And.intro (by omega) ?_) | (with_reducible refine CALL_pure (hy) ?_) | simp -dsimp -implicitDefEqProofs only [EV1, EV2, EV3, EV4, EV5, seval, ↓reduceIte, reduceCtorEq, eq_self, Option.map_some, decide_true, decide_false, EV6, EV7, hx.yes, hx.le0, hx.lt', hx.get, hx.row, hw] | (with_reducible intro blk hblk; (try (have hnx := hblk; simp only [EVK] at hnx; first | (have hne := And.intro hnx hne) | (have hne := hnx)))) | (with_reducible refine both_case ?_ ?_) | (with_reducible refine same_case ?_) | (refine app_lst (m' := (d.2.length + y.finds.length) * 6) (by first | exact tok_get | exact tok_get_cons (by assumption)) (by simp) (by simp) (by simp; omega) (fun gn => ?_)) | (exfalso; omega)))
        refine LK_next hx (gn, d.2 ++ y.finds) (by rw [hok, List.append_assoc]) (by simp only [List.map_append, List.length_append]; exact Weak.rfl' _ _)
      · (repeat' (first | (with_reducible (first | refine split_case (fun h => ?_) (fun h => ?_) | refine gd_case (fun h => ?_) (fun h => ?_) | refine pick_case (fun h => ?_) (fun h => ?_)) <;> (try simp only [Da, Db, Dc, Dd, De, Df, Dg, Dh] at h)) | (with_reducible refine And.intro (by omega) ?_)  | simp -dsimp -implicitDefEqProofs only [EV1, EV2, EV3, EV4, EV5, seval, ↓reduceIte, reduceCtorEq, eq_self, Option.map_some, decide_true, decide_false, EV6, EV7, hn] | (with_reducible intro blk hblk; (try (have hnx := hblk; simp only [EVK] at hnx; first | (have hne := And.intro hnx hne) | (have hne := hnx)))) | (with_reducible refine both_case ?_ ?_) | (with_reducible refine same_case ?_) | (exfalso; omega)))
        exact hR _ _ _ (by rw [hok, Itm.findss_nil, List.append_nil]) (by rw [List.length_map]; exact SubN.refl _)
  · have hm2 : x.may = false := by simpa using hm
    rw [hm2] at hV
    rw [if_neg hm] at hR
    (repeat' (first | (with_reducible (first | refine split_case (fun h => ?_) (fun h => ?_) | refine gd_case (fun h => ?_) (fun h => ?_) | refine pick_case (fun h => ?_) (fun h => ?_)) <;> (try simp only [Da, Db, Dc, Dd, De, Df, Dg, Dh] at h)) | (with_reducible refine And.intro (by omega) ?_) | (with_reducible refine CALL_pure (hV) ?_) | simp -dsimp -implicitDefEqProofs only [EV1, EV2, EV3, EV4, EV5, seval, ↓reduceIte, reduceCtorEq, eq_self, Option.map_some, decide_true, decide_false, EV6, EV7] | (with_reducible intro blk hblk; (try (have hnx := hblk; simp only [EVK] at hnx; first | (have hne := And.intro hnx hne) | (have hne := hnx)))) | (with_reducible refine both_case ?_ ?_) | (with_reducible refine same_case ?_) | (refine ⟨[(fw 1 tInvalid).cs], rfl, (by simp [fw_cs]), rfl, ?_⟩) | (exfalso; omega)))
    exact hR _ _ _ rfl (SubN.refl _)
theorem f12 (x : Itm) (hs : x.Shorts) : Pure G Tryz.prog 12 [.agg x.cs] (.lst 6 (x.finds.map Fnd.cs)) := (f12o G hG x hs).lst
end
end Go.Av
end

section
namespace Go.Av
open Go Go.RowKit Go.Proofs
set_option linter.unusedSimpArgs false
set_option linter.unusedVariables false

section
variable (G : Glob)

end
end Go.Av
end

section
namespace Go.Av
open Go Go.RowKit Go.Proofs
set_option linter.unusedSimpArgs false
set_option linter.unusedVariables false

section
variable (G : Glob)

end
end Go.Av
end

section
namespace Go.Av
open Go Go.RowKit Go.Proofs
set_option linter.unusedSimpArgs false
set_option linter.unusedVariables false

section
variable (G : Glob)

end
end Go.Av
end

section
namespace Go.Av
open Go Go.RowKit Go.Proofs
set_option linter.unusedSimpArgs false
set_option linter.unusedVariables false

section
variable (G : Glob)
end
end Go.Av
end

section
namespace Go.Av
open Go Go.RowKit Go.Proofs
set_option linter.unusedSimpArgs false
set_option linter.unusedVariables false

section
variable (G : Glob)
/-- An act of which nothing is filled in. -/
def zActCs : List AV := [.int .i64 0, .str [], .int .i64 0, .int .i64 0, .int .i64 0, .str [], .nil]
theorem valid_zero : Pure G Tryz.prog 39 [.agg zActCs] (.bool false) := by
  refine Pure.w c39 fun R hR => ?_
  unfold s39 r39 zActCs
  (repeat' (first | (with_reducible (first | refine split_case (fun h => ?_) (fun h => ?_) | refine gd_case (fun h => ?_) (fun h => ?_) | refine pick_case (fun h => ?_) (fun h => ?_)) <;> (try simp only [Da, Db, Dc, Dd, De, Df, Dg, Dh] at h)) | (with_reducible refine And.intro (by omega) ?_)  | simp -dsimp -implicitDefEqProofs only [EV1, EV2, EV3, EV4, EV5, seval, ↓reduceIte, reduceCtorEq, eq_self, Option.map_some, decide_true, decide_false, EV6, EV7] | (with_reducible intro blk hblk; (try (have hnx := hblk; simp only [EVK] at hnx; first | (have hne := And.intro hnx hne) | (have hne := hnx)))) | (with_reducible refine both_case ?_ ?_) | (with_reducible refine same_case ?_) | (exfalso; omega)))
  (all_goals (first | (exact RET.eq hR rfl) | rfl | (refine RET.eq hR ?_; (refine congrArg AV.bool (Bool.eq_iff_iff.2 ?_); simp only [EVB] at *; omega)) | (refine RET.eq hR ?_; first | (simp only [hok, h, EVC, decide_true, decide_false]; done) | (simp only [hok, EVC, decide_true, decide_false]; done) | (simp only [hok, EVC, decide_true, decide_false]; refine congrArg AV.bool (decide_eq_decide.2 ?_); omega) | (simp_all []; done) | (simp_all []; omega) | grind | (norm_cast at *; simp_all []; done) | (norm_cast at *; simp_all []; omega)) | (refine hR _ _ (Or.inl (Or.inr ⟨rfl, ?_⟩)); simp []; done) | (refine hR _ _ (Or.inr ?_); simp [*, AVleL, AVle1, Itm.cs_eq, U.cs_eq, ]; done) | (rw [hok]; simp only [h, EVC, decide_true, decide_false]; done) | (rw [hok]; simp only [EVC, decide_true, decide_false]; done) | (simp_all []; done) | (simp_all []; omega) | grind | (norm_cast at *; simp_all []; done) | (norm_cast at *; simp_all []; omega)))
def actFnd : Fnd := ⟨-1, ⟨0, 0, 0⟩, 1, [97, 99, 116]⟩
theorem check_zero : Pure G Tryz.prog 15 [.agg zActCs] (.lst 6 [actFnd.cs]) := by
  have hV := valid_zero G
  refine Pure.w c15 fun R hR => ?_
  unfold s15 r15
  unfold zActCs at *
  (repeat' (first | (with_reducible (first | refine split_case (fun h => ?_) (fun h => ?_) | refine gd_case (fun h => ?_) (fun h => ?_) | refine pick_case (fun h => ?_) (fun h => ?_)) <;> (try simp only [Da, Db, Dc, Dd, De, Df, Dg, Dh] at h)) | (with_reducible refine And.intro (by omega) ?_) | (with_reducible refine CALL_pure (hV) ?_) | simp -dsimp -implicitDefEqProofs only [EV1, EV2, EV3, EV4, EV5, seval, ↓reduceIte, reduceCtorEq, eq_self, Option.map_some, decide_true, decide_false, EV6, EV7] | (with_reducible intro blk hblk; (try (have hnx := hblk; simp only [EVK] at hnx; first | (have hne := And.intro hnx hne) | (have hne := hnx)))) | (with_reducible refine both_case ?_ ?_) | (with_reducible refine same_case ?_) | (refine ⟨[actFnd.cs], rfl, (by simp [actFnd, Fnd.cs]), rfl, ?_⟩) | (exfalso; omega)))
  exact hR _ _ (Or.inl (Or.inr ⟨rfl, rfl⟩))
end
end Go.Av
end
