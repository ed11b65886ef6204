/-
  LINT, plain laws: the findings for an item, by the program and by the reference.
-/
import Derived.Test.YtedcgagodcfgmaaGreatDoorXL25toXL50
import Derived.Test.YtedcgagodcfgmaaGreatDoorXP1toXL28
import Derived.Test.YtedcgagodcfgmaaGreatDoorXL31toXL23
import Derived.Test.YtedcgagodcfgmaaGreatDoorXL33
import Derived.Test.YtedcgagodcfgmaaGreatDoorXL34toXL35
import Derived.Test.YtedcgagodcfgmaaGreatDoorXL51toXL27
import Derived.Lib.ItoaLen
section
namespace Go.Av
open Go Go.RowKit Go.Proofs
set_option linter.unusedSimpArgs false
set_option linter.unusedVariables false

def fw (w : Int) (t : List UInt8) : Fnd := ⟨0, ⟨0, 0, 0⟩, w, t⟩
def tInvalid : List UInt8 := [105, 110, 118, 97, 108, 105, 100]
def tBook : List UInt8 := [98, 111, 111, 107]
def tContain : List UInt8 := [99, 111, 110, 116, 97, 105, 110, 109, 101, 110, 116]
def tSelf : List UInt8 := [115, 101, 108, 102]
def tNoEffect : List UInt8 := [110, 111, 32, 101, 102, 102, 101, 99, 116]
def tOwnLabel : List UInt8 := [111, 119, 110, 32, 108, 97, 98, 101, 108]

def bes (x : Itm) : Bool := decide (x.wh = 2) || decide (x.wh = 3)
def ins (x : Itm) (k : Int) : Bool := decide (x.kind = k) && !bes x
/-- The rules of the program. -/
def rule1 (x : Itm) : Bool := (isBook x.at_ && ((decide (1 ≤ x.kind) && decide (x.kind ≤ 6)) || (decide (x.kind = 0) && bes x))) || (decide (x.kind = 6) && (bes x && isBook x.to_))
def rule2 (x : Itm) : Bool := (ins x 0 && !nests (lastStp x.at_).kind x.unit.kind) || (ins x 6 && !nests (lastStp x.to_).kind (lastStp x.at_).kind)
def rule3 (x : Itm) : Bool := ins x 6 && decide (x.at_ = x.to_)
def rule4 (x : Itm) : Bool := (decide (x.kind = 2) && decide (x.old = x.new)) || (decide (x.kind = 6) && (bes x && decide (x.at_ = x.to_)))
def rule5 (x : Itm) : Bool := decide (x.kind = 5) && decide ((lastStp x.at_).label = x.label)
def optF (b : Bool) (f : Fnd) : List Fnd := if b then [f] else []
def flawsP (x : Itm) : List Fnd := optF (rule1 x) (fw 9 tBook) ++ (optF (rule2 x) (fw 9 tContain) ++ (optF (rule3 x) (fw 9 tSelf) ++ (optF (rule4 x) (fw 11 tNoEffect) ++ optF (rule5 x) (fw 10 tOwnLabel))))
/-- The rules of the reference. -/
def besR (x : Itm) : Bool := decide (2 ≤ x.wh)
def ruleR1 (x : Itm) : Bool := (decide (1 ≤ x.kind) && (decide (x.kind ≤ 6) && isBook x.at_)) || ((decide (x.kind = 0) && (besR x && isBook x.at_)) || (decide (x.kind = 6) && (besR x && isBook x.to_)))
def ruleR2 (x : Itm) : Bool := (decide (x.kind = 0) && (!besR x && !nests (lastStp x.at_).kind x.unit.kind)) || (decide (x.kind = 6) && (!besR x && !nests (lastStp x.to_).kind (lastStp x.at_).kind))
def ruleR3 (x : Itm) : Bool := decide (x.kind = 6) && (!besR x && decide (x.at_ = x.to_))
def ruleR4 (x : Itm) : Bool := (decide (x.kind = 2) && decide (x.old = x.new)) || (decide (x.kind = 6) && (besR x && decide (x.at_ = x.to_)))
def ruleR5 (x : Itm) : Bool := decide (x.kind = 5) && (!isBook x.at_ && decide ((lastStp x.at_).label = x.label))
def flawsR (x : Itm) : List Fnd := optF (ruleR1 x) (fw 9 tBook) ++ (optF (ruleR2 x) (fw 9 tContain) ++ (optF (ruleR3 x) (fw 9 tSelf) ++ (optF (ruleR4 x) (fw 11 tNoEffect) ++ optF (ruleR5 x) (fw 10 tOwnLabel))))
mutual
def Itm.finds : Itm → List Fnd
  | ⟨k, a, t, wh, n, u, o, w, l, f, s, ac, it, d, e, b⟩ => if Itm.may ⟨k, a, t, wh, n, u, o, w, l, f, s, ac, it, d, e, b⟩ = true then flawsP ⟨k, a, t, wh, n, u, o, w, l, f, s, ac, it, d, e, b⟩ ++ Itm.findss b else [fw 1 tInvalid]
def Itm.findss : List Itm → List Fnd
  | [] => []
  | x :: l => Itm.finds x ++ Itm.findss l
end
theorem Itm.finds_eq (x : Itm) : x.finds = if x.may = true then flawsP x ++ Itm.findss x.by_ else [fw 1 tInvalid] := by cases x; rw [Itm.finds]
theorem Itm.findss_cons (x : Itm) (l : List Itm) : Itm.findss (x :: l) = x.finds ++ Itm.findss l := by rw [Itm.findss]
theorem Itm.findss_nil : Itm.findss [] = [] := by rw [Itm.findss]
mutual
def Itm.refs : Itm → List Fnd
  | ⟨k, a, t, wh, n, u, o, w, l, f, s, ac, it, d, e, b⟩ => if Itm.may ⟨k, a, t, wh, n, u, o, w, l, f, s, ac, it, d, e, b⟩ = true then flawsR ⟨k, a, t, wh, n, u, o, w, l, f, s, ac, it, d, e, b⟩ ++ (if k = 11 then Itm.refs1 b else []) else [fw 1 tInvalid]
def Itm.refs1 : List Itm → List Fnd
  | [] => []
  | x :: _ => Itm.refs x
end
/-! ### valid items -/
theorem may_pre {x : Itm} (h : x.may = true) : 0 ≤ x.kind ∧ x.kind ≤ 11 ∧ x = x.told ∧ x.own (Itm.mayOne x.by_) = true := by
  rw [Itm.may_eq, Bool.and_eq_true] at h
  obtain ⟨h1, h2⟩ := h
  unfold Itm.pre inR at h1
  simp only [Bool.and_eq_true, decide_eq_true_eq] at h1
  exact ⟨h1.1.1.1, h1.1.1.2, h1.1.2, h2⟩
theorem may_by {x : Itm} (h : x.may = true) (hk : x.kind ≠ 11) : x.by_ = [] := by
  obtain ⟨h0, h11, ht, _⟩ := may_pre h
  have e : x.by_ = x.told.by_ := congrArg Itm.by_ ht
  rw [e]
  have hh : x.kind = 0 ∨ x.kind = 1 ∨ x.kind = 2 ∨ x.kind = 3 ∨ x.kind = 4 ∨ x.kind = 5 ∨ x.kind = 6 ∨ x.kind = 7 ∨ x.kind = 8 ∨ x.kind = 9 ∨ x.kind = 10 := by omega
  rcases hh with hh | hh | hh | hh | hh | hh | hh | hh | hh | hh | hh <;> simp [Itm.told, Itm.just, iz, hh]
theorem may_one {x : Itm} (h : x.may = true) (hk : x.kind = 11) : ∃ y, x.by_ = [y] ∧ y.may = true := by
  obtain ⟨_, _, _, ho⟩ := may_pre h
  unfold Itm.own at ho
  rw [if_neg (by omega), if_neg (by omega), if_neg (by omega), if_neg (by omega), if_neg (by omega), if_neg (by omega), if_neg (by omega), if_neg (by omega), if_pos hk] at ho
  simp only [Bool.and_eq_true] at ho
  have hm := ho.2.2
  rcases hb : x.by_ with _ | ⟨y, _ | ⟨z, l⟩⟩
  · rw [hb, Itm.mayOne] at hm; cases hm
  · rw [hb, Itm.mayOne_cons] at hm
    simp only [Bool.and_eq_true] at hm
    exact ⟨y, rfl, hm.2⟩
  · rw [hb, Itm.mayOne_cons] at hm
    simp at hm
end Go.Av
end

section
namespace Go.Av
open Go Go.RowKit Go.Proofs
set_option linter.unusedSimpArgs false
set_option linter.unusedVariables false

section
variable (G : Glob) (hG : GOk G)

theorem f84 (a b : List (List UInt8)) (ha : a.length < 9000000000000000000) : Pure G Tryz.prog 84 [.lst 1 (a.map srow), .lst 1 (b.map srow)] (.bool (decide (a = b))) := by
  refine Pure.w c84 fun R hR => ?_
  unfold s84 r84
  (repeat' (first | (with_reducible refine CALL_pure (f91 G _ _ ha) ?_) | simp -dsimp -implicitDefEqProofs only [EV1, EV2, EV3, EV4, EV5, seval, ↓reduceIte, reduceCtorEq, eq_self, Option.map_some, decide_true, decide_false, EV6, EV7]))
  (all_goals ((exact RET.eq hR rfl)))
theorem f74 (x : Itm) : Pure G Tryz.prog 74 [.agg x.cs] (.bool (rule1 x)) := by
  have hb := f76 G x
  have h1 := f75 G x.at_
  have h2 := f75 G x.to_
  refine Pure.w c74 fun R hR => ?_
  unfold s74 r74
  unfold rule1 bes at hR
  generalize isBook x.at_ = q1 at *
  generalize isBook x.to_ = q2 at *
  generalize (decide (x.wh = 2) || decide (x.wh = 3)) = q3 at *
  (repeat' (first | (with_reducible (refine gd_case (fun h => ?_) (fun h => ?_)) <;> (try simp only [Da, Db, Dc, Dd, De, Df, Dg, Dh] at h)) | (with_reducible refine CALL_pure (hb) ?_) | (with_reducible refine CALL_pure (h1) ?_) | (with_reducible refine CALL_pure (h2) ?_) | simp -dsimp -implicitDefEqProofs only [EV1, EV2, EV3, EV4, EV5, seval, ↓reduceIte, reduceCtorEq, eq_self, Option.map_some, decide_true, decide_false, EV6, EV7] | (exfalso; omega)))
  all_goals (refine RET.eq hR (congrArg AV.bool ?_); first | (simp [*]; done) | (rw [decide_eq_false (by omega)]; simp_all))
include hG in
theorem f77 (x : Itm) (q : x.Short1) : Pure G Tryz.prog 77 [.agg x.cs] (.bool (rule2 x)) := by
  have hi := fun k => f78 G x k
  have h1 := f80 G x.at_ q.at_
  have h2 := f80 G x.to_ q.to_
  have hn := f79 G hG
  rw [stp_cs] at h1 h2
  refine Pure.w c77 fun R hR => ?_
  unfold s77 r77
  unfold rule2 ins bes at hR
  have hi0 := hi 0
  have hi6 := hi 6
  clear hi
  generalize (decide (x.wh = 2) || decide (x.wh = 3)) = b at *
  (repeat' (first | (with_reducible (refine gd_case (fun h => ?_) (fun h => ?_)) <;> (try simp only [Da, Db, Dc, Dd, De, Df, Dg, Dh] at h)) | (with_reducible refine CALL_pure (hi0) ?_) | (with_reducible refine CALL_pure (hi6) ?_) | (with_reducible refine CALL_pure (h1) ?_) | (with_reducible refine CALL_pure (h2) ?_) | (with_reducible refine CALL_pure (hn _ _) ?_) | simp -dsimp -implicitDefEqProofs only [EV1, EV2, EV3, EV4, EV5, seval, ↓reduceIte, reduceCtorEq, eq_self, Option.map_some, decide_true, decide_false, EV6, EV7]))
  all_goals (refine RET.eq hR (congrArg AV.bool ?_); ((simp [*]; done)))
theorem f81 (x : Itm) (q : x.Short1) : Pure G Tryz.prog 81 [.agg x.cs] (.bool (rule3 x)) := by
  have hi := f78 G x 6
  have he := f82 G x.at_ x.to_ (by have := q.at_; omega)
  refine Pure.w c81 fun R hR => ?_
  unfold s81 r81
  unfold rule3 ins bes at hR
  generalize decide (x.at_ = x.to_) = q1 at *
  generalize (decide (x.kind = 6) && !(decide (x.wh = 2) || decide (x.wh = 3))) = q2 at *
  (repeat' (first | (with_reducible (refine gd_case (fun h => ?_) (fun h => ?_)) <;> (try simp only [Da, Db, Dc, Dd, De, Df, Dg, Dh] at h)) | (with_reducible refine CALL_pure (hi) ?_) | (with_reducible refine CALL_pure (he) ?_) | simp -dsimp -implicitDefEqProofs only [EV1, EV2, EV3, EV4, EV5, seval, ↓reduceIte, reduceCtorEq, eq_self, Option.map_some, decide_true, decide_false, EV6, EV7]))
  (all_goals (((refine RET.eq hR ?_; ((simp_all []; done))))))
theorem f83 (x : Itm) (q : x.Short1) : Pure G Tryz.prog 83 [.agg x.cs] (.bool (rule4 x)) := by
  have hb := f76 G x
  have he := f82 G x.at_ x.to_ (by have := q.at_; omega)
  have hw := f84 G x.old x.new (by have := q.old; omega)
  refine Pure.w c83 fun R hR => ?_
  unfold s83 r83
  unfold rule4 bes at hR
  generalize decide (x.at_ = x.to_) = q1 at *
  generalize decide (x.old = x.new) = q2 at *
  generalize (decide (x.wh = 2) || decide (x.wh = 3)) = q3 at *
  (repeat' (first | (with_reducible (refine gd_case (fun h => ?_) (fun h => ?_)) <;> (try simp only [Da, Db, Dc, Dd, De, Df, Dg, Dh] at h)) | (with_reducible refine CALL_pure (hb) ?_) | (with_reducible refine CALL_pure (he) ?_) | (with_reducible refine CALL_pure (hw) ?_) | simp -dsimp -implicitDefEqProofs only [EV1, EV2, EV3, EV4, EV5, seval, ↓reduceIte, reduceCtorEq, eq_self, Option.map_some, decide_true, decide_false, EV6, EV7] | (exfalso; omega)))
  (all_goals (first | (refine RET.eq hR ?_; (refine congrArg AV.bool (Bool.eq_iff_iff.2 ?_); simp only [EVB] at *; omega)) | (refine RET.eq hR ?_; ((simp_all []; done)))))
theorem f85 (x : Itm) (q : x.Short1) : Pure G Tryz.prog 85 [.agg x.cs] (.bool (rule5 x)) := by
  have h1 := f80 G x.at_ q.at_
  rw [stp_cs] at h1
  refine Pure.w c85 fun R hR => ?_
  unfold s85 r85
  (repeat' (first | (with_reducible (refine gd_case (fun h => ?_) (fun h => ?_)) <;> (try simp only [Da, Db, Dc, Dd, De, Df, Dg, Dh] at h)) | (with_reducible refine CALL_pure (h1) ?_) | simp -dsimp -implicitDefEqProofs only [EV1, EV2, EV3, EV4, EV5, seval, ↓reduceIte, reduceCtorEq, eq_self, Option.map_some, decide_true, decide_false, EV6, EV7]))
  all_goals (refine RET.eq hR (congrArg AV.bool ?_); ((simp [rule5, *]; done)))
end
end Go.Av
end

section
namespace Go.Av
open Go Go.RowKit Go.Proofs
set_option linter.unusedSimpArgs false
set_option linter.unusedVariables false

theorem tab_none {k : Int} (h : ¬ (0 ≤ k ∧ k ≤ 11)) : mgets k ruleTab = none := by
  simp only [ruleTab, mgets]
  rw [if_neg (by omega), if_neg (by omega), if_neg (by omega), if_neg (by omega), if_neg (by omega), if_neg (by omega), if_neg (by omega), if_neg (by omega), if_neg (by omega), if_neg (by omega), if_neg (by omega), if_neg (by omega)]

section
variable (G : Glob) (hG : GOk G)
include hG

theorem valid_none (x : Itm) (hk : ¬ (0 ≤ x.kind ∧ x.kind ≤ 11)) : Pure G Tryz.prog 30 [.agg x.cs] (.bool x.may) := by
  have hRu := f69 G hG
  have hm1 := tab_none hk
  have hkk : inR x.kind 0 11 = false := by unfold inR; simp; omega
  refine Pure.w c30 fun R hR => ?_
  unfold s30 r30
  rw [Itm.may_eq] at hR
  unfold Itm.pre at hR
  rw [hkk] at hR
  (repeat' (first | (with_reducible (first | refine split_case (fun h => ?_) (fun h => ?_) | refine gd_case (fun h => ?_) (fun h => ?_) | refine pick_case (fun h => ?_) (fun h => ?_)) <;> (try simp only [Da, Db, Dc, Dd, De, Df, Dg, Dh] at h)) | (with_reducible refine And.intro (by omega) ?_)  | simp -dsimp -implicitDefEqProofs only [EV1, EV2, EV3, EV4, EV5, seval, ↓reduceIte, reduceCtorEq, eq_self, Option.map_some, decide_true, decide_false, EV6, EV7, hm1, Option.getD_none, Option.isSome_none, hne] | simp -dsimp -implicitDefEqProofs only [EV1, EV2, EV3, EV4, EV5, seval, ↓reduceIte, reduceCtorEq, eq_self, Option.map_some, decide_true, decide_false, EV6, EV7, hm1, Option.getD_none, Option.isSome_none] | (with_reducible intro blk hblk; (try (have hnx := hblk; simp only [EVK] at hnx; first | (have hne := And.intro hnx hne) | (have hne := hnx)))) | (with_reducible refine both_case ?_ ?_) | (with_reducible refine same_case ?_) | (refine CALL_specN [] _ hRu.v (AVleA.rfl' _) (SubN.refl _) (fun r σ' hh hnd => ?_);obtain ⟨bm, rfl, rfl⟩ := hh;(have hne := hnd);(try simp [Store.keys] at hne)) | (refine same_case ?_) | (refine RAW_lookup mapK_i (l := ruleTab) (k := x.kind) (z := .agg #[.nilFunc, .nilFunc]) (zv := .agg [.sc .nilFunc, .sc .nilFunc]) (eT := 107) rfl (rep_v_33 _) (by kernel_rfl) (by first | exact sget_hd | (simp [Store.get, *]; done)) (by kernel_rfl) rep_zr_33 ?_) | (exfalso; omega)))
  all_goals (refine RET.eq hR (congrArg AV.bool ?_); simp; done)

theorem f30 : ∀ x : Itm, x.Shorts → Pure G Tryz.prog 30 [.agg x.cs] (.bool x.may) := by
  refine Itm.ind fun x ih hs => ?_
  obtain ⟨q, hby⟩ := (Itm.Shorts_eq x).1 hs
  by_cases hk : 0 ≤ x.kind ∧ x.kind ≤ 11
  · have hh : x.kind = 0 ∨ x.kind = 1 ∨ x.kind = 2 ∨ x.kind = 3 ∨ x.kind = 4 ∨ x.kind = 5 ∨ x.kind = 6 ∨ x.kind = 7 ∨ x.kind = 8 ∨ x.kind = 9 ∨ x.kind = 10 ∨ x.kind = 11 := by omega
    rcases hh with h | h | h | h | h | h | h | h | h | h | h | h
    · exact valid_0 G hG x q h
    · exact valid_1 G hG x q h
    · exact valid_2 G hG x q h
    · exact valid_3 G hG x q h
    · exact valid_4 G hG x q h
    · exact valid_5 G hG x q h
    · exact valid_6 G hG x q h
    · exact valid_7 G hG x q h
    · exact valid_8 G hG x q h
    · exact valid_9 G hG x q h
    · exact valid_10 G hG x q h
    · exact valid_11 G hG x q (fun y hy => ih y hy (hby y hy)) h
  · exact valid_none G hG x hk

/-- The table of the checks. -/
def faultRow (w : Int) (t : List UInt8) (k : Nat) : List AV := [.int .i64 w, .str t, fnv k]
def faultRows : List (List AV) := [faultRow 9 tBook 74, faultRow 9 tContain 77, faultRow 9 tSelf 81, faultRow 11 tNoEffect 83, faultRow 10 tOwnLabel 85]
omit hG in
theorem f31 : Pure G Tryz.prog 31 [] (.lst 3 faultRows) := by
  refine Pure.w c31 fun R hR => ?_
  unfold s31 r31
  (repeat' (first | (with_reducible (first | refine split_case (fun h => ?_) (fun h => ?_) | refine gd_case (fun h => ?_) (fun h => ?_) | refine pick_case (fun h => ?_) (fun h => ?_)) <;> (try simp only [Da, Db, Dc, Dd, De, Df, Dg, Dh] at h)) | (with_reducible refine And.intro (by omega) ?_)  | simp -dsimp -implicitDefEqProofs only [EV1, EV2, EV3, EV4, EV5, seval, ↓reduceIte, reduceCtorEq, eq_self, Option.map_some, decide_true, decide_false, EV6, EV7] | (with_reducible intro blk hblk; (try (have hnx := hblk; simp only [EVK] at hnx; first | (have hne := And.intro hnx hne) | (have hne := hnx)))) | (with_reducible refine both_case ?_ ?_) | (with_reducible refine same_case ?_) | (refine ⟨faultRows, rfl, (by simp [faultRows, faultRow]), rfl, ?_⟩) | (exfalso; omega)))
  exact hR _ _ (Or.inl (Or.inr ⟨rfl, rfl⟩))
end
end Go.Av
end

section
namespace Go.Av
open Go Go.RowKit Go.Proofs
set_option linter.unusedSimpArgs false
set_option linter.unusedVariables false

theorem fit_ch (c : UInt8) : fitN c.toNat = nameCh c := by
  unfold fitN nameCh isLow isDig
  rfl
theorem idxF_lt {α : Type} (p : α → Bool) (l : List α) : decide (idxF p 0 l < 0) = l.all fun x => !p x := by
  have h := idxF_ge p l 0
  have e : decide (idxF p 0 l < 0) = !decide (0 ≤ idxF p 0 l) := by rw [Bool.eq_iff_iff]; simp
  rw [e, h, List.not_any_eq_all_not]
def fromDay : List UInt8 := [102, 114, 111, 109, 32, 100, 97, 121, 32]
def byOrder : List UInt8 := [98, 121, 32, 111, 114, 100, 101, 114]
def onEvent : List UInt8 := [111, 110, 32, 101, 118, 101, 110, 116, 32]
def beginT (s : Sta) : List UInt8 :=
  if decide (s.kind = 1) && (inR s.day 0 1048576 && decide (s.event = [])) then fromDay ++ Lib.itoa s.day
  else if decide (s.kind = 2) && (decide (s.day = 0) && decide (s.event = [])) then byOrder
  else if decide (s.kind = 3) && (decide (s.day = 0) && nameOk s.event) then onEvent ++ s.event else []
theorem beginT_ne (s : Sta) : decide (beginT s ≠ []) = startAct s := by
  unfold beginT startAct
  generalize inR s.day 0 1048576 = q1
  generalize nameOk s.event = q2
  by_cases h1 : s.kind = 1
  · have h2 : ¬ s.kind = 2 := by omega
    have h3 : ¬ s.kind = 3 := by omega
    simp [h1, h2, h3]
    cases q1 <;> by_cases he : s.event = [] <;> simp [he, fromDay]
  · by_cases h2 : s.kind = 2
    · have h3 : ¬ s.kind = 3 := by omega
      simp [h1, h2, h3]
      by_cases h4 : s.day = 0 <;> by_cases he : s.event = [] <;> simp [h4, he, byOrder]
    · by_cases h3 : s.kind = 3
      · simp [h1, h2, h3]
        by_cases h4 : s.day = 0 <;> cases q2 <;> simp [h4, onEvent]
      · simp [h1, h2, h3]

section
variable (G : Glob)
theorem f214 (b n : Nat) : FnSpec G Tryz.prog 214 [.int .i32 (n : Int), .sc (.pointer (some ⟨b, 0, none⟩))] (fitS b) fun x σ' => x = .bool (!fitN n) ∧ σ' = fitS b := by
  have h1 := f212 G n
  refine FnSpec.wk c214 fun R hR => ?_
  unfold s214 r214 fitS
  (repeat' (first | (with_reducible refine CALL_pure (h1) ?_) | simp -dsimp -implicitDefEqProofs only [EV1, EV2, EV3, EV4, EV5, seval, ↓reduceIte, reduceCtorEq, eq_self, Option.map_some, decide_true, decide_false, EV6, EV7]))
  exact hR _ _ (AVle.rfl' _) (SubN.refl _)
theorem f146 (s : List UInt8) : Pure G Tryz.prog 146 [.str s] (.bool (nameOk s)) := by
  have hI : ∀ b, FnSpec G Tryz.prog 213 _ (fitS b) _ := fun b => index_k G 214 b (fun n => !fitN n) s (fitS_det b) (enters_of Tryz.func214 (by kernel_rfl) rfl) (fun n hn => by simp [fitN]; omega) (fun n => f214 G b n)
  unfold fitS at hI
  have e1 : decide (idxF (fun c : UInt8 => !fitN c.toNat) 0 s < 0) = s.all nameCh := by
    rw [idxF_lt]
    simp only [Bool.not_not, fit_ch]
  refine Pure.w c146 fun R hR => ?_
  unfold s146 r146
  (repeat' (first | (with_reducible (refine gd_case (fun h => ?_) (fun h => ?_)) <;> (try simp only [Da, Db, Dc, Dd, De, Df, Dg, Dh] at h)) | (with_reducible refine And.intro (by omega) ?_) | simp -dsimp -implicitDefEqProofs only [EV1, EV2, EV3, EV4, EV5, seval, ↓reduceIte, reduceCtorEq, eq_self, Option.map_some, decide_true, decide_false, EV6, EV7, e1] | (with_reducible intro blk hblk; (try (have hnx := hblk; simp only [EVK] at hnx; (have hne := hnx)))) | (refine CALL_keep (hI _).v ?_)))
  (all_goals (first | (refine RET.eq hR ?_; (refine congrArg AV.bool (Bool.eq_iff_iff.2 ?_); simp only [nameOk, isLow, EVB] at *; omega)) | (refine RET.eq hR ?_; ((simp_all [nameOk, isLow]; done)))))

set_option maxRecDepth 100000 in
theorem f89 (hG : GOk2 G) (s : Sta) (he : s.event.length < 1000000000000000000) : Pure G Tryz.prog 89 [.agg [.int .i64 s.kind, .int .i64 s.day, .str s.event]] (.str (beginT s)) := by
  have hN := f146 G s.event
  refine Pure.w c89 fun R hR => ?_
  unfold s89 r89
  unfold beginT at hR
  cases hd : inR s.day 0 1048576 with
  | true =>
    have hd2 := hd
    unfold inR at hd2
    simp only [Bool.and_eq_true, decide_eq_true_eq] at hd2
    have hi := f145 G hG s.day (by omega) (by omega)
    have hil := Lib.itoa_length_le s.day (by omega) (by omega)
    (repeat' (first | (with_reducible (first | refine split_case (fun h => ?_) (fun h => ?_) | refine gd_case (fun h => ?_) (fun h => ?_)) <;> (try simp only [Da, Db, Dc, Dd, De, Df, Dg, Dh] at h)) | (with_reducible refine And.intro (by omega) ?_) | (with_reducible refine CALL_pure (f88 G _) ?_) | (with_reducible refine CALL_pure (hN) ?_) | (with_reducible refine CALL_pure (hi) ?_) | simp -dsimp -implicitDefEqProofs only [EV1, EV2, EV3, EV4, EV5, seval, ↓reduceIte, reduceCtorEq, eq_self, Option.map_some, decide_true, decide_false, EV6, EV7, hd] | (exfalso; omega)))
    (all_goals (((refine RET.eq hR ?_; ((simp_all [fromDay, byOrder, onEvent]; done))))))
  | false =>
    (repeat' (first | (with_reducible (first | refine split_case (fun h => ?_) (fun h => ?_) | refine gd_case (fun h => ?_) (fun h => ?_)) <;> (try simp only [Da, Db, Dc, Dd, De, Df, Dg, Dh] at h)) | (with_reducible refine And.intro (by omega) ?_) | (with_reducible refine CALL_pure (f88 G _) ?_) | (with_reducible refine CALL_pure (hN) ?_) | simp -dsimp -implicitDefEqProofs only [EV1, EV2, EV3, EV4, EV5, seval, ↓reduceIte, reduceCtorEq, eq_self, Option.map_some, decide_true, decide_false, EV6, EV7, hd] | (exfalso; omega)))
    (all_goals (((refine RET.eq hR ?_; ((simp_all [fromDay, byOrder, onEvent]; done))))))

variable (hG : GOk G)
include hG
theorem f86 (x : Itm) (hs : x.Shorts) : Pure G Tryz.prog 86 [.agg x.cs] (.bool (!x.may)) := by
  refine Pure.w c86 fun R hR => ?_
  unfold s86 r86
  (repeat' (first | (with_reducible refine CALL_pure (f30 G hG x hs) ?_) | simp -dsimp -implicitDefEqProofs only [EV1, EV2, EV3, EV4, EV5, seval, ↓reduceIte, reduceCtorEq, eq_self, Option.map_some, decide_true, decide_false, EV6, EV7]))
  (all_goals ((exact RET.eq hR rfl)))
theorem f39 (hG2 : GOk2 G) (a : Ac) (ht : a.title.length < 4294967281) (he : a.start.event.length < 1000000000000000000) (hl : a.items.length < 9000000000000000000) (hs : ∀ x ∈ a.items, x.Shorts) : Pure G Tryz.prog 39 [.agg a.cs] (.bool a.may) := by
  have hT := f87 G hG2 a.title ht
  have hB := f89 G hG2 a.start he
  have hC : Pure G Tryz.prog _ _ _ := f40k G [] (.func (.func 86) #[] #[]) (fun x => !x.may) a.items hl (fun x hx => (f86 G hG x (hs x hx)).v)
  have e1 := beginT_ne a.start
  refine Pure.w c39 fun R hR => ?_
  unfold s39 r39 Ac.cs
  unfold Ac.may at hR
  generalize titleOk a.title = q1 at *
  generalize startAct a.start = q2 at *
  (repeat' (first | (with_reducible (refine gd_case (fun h => ?_) (fun h => ?_)) <;> (try simp only [Da, Db, Dc, Dd, De, Df, Dg, Dh] at h)) | (with_reducible refine CALL_pure (hT) ?_) | (with_reducible refine CALL_pure (f88 G _) ?_) | (with_reducible refine CALL_pure (hB) ?_) | (with_reducible refine CALL_pure (hC) ?_) | simp -dsimp -implicitDefEqProofs only [EV1, EV2, EV3, EV4, EV5, seval, ↓reduceIte, reduceCtorEq, eq_self, Option.map_some, decide_true, decide_false, EV6, EV7, e1, all_any]))
  (all_goals (first | (refine RET.eq hR ?_; (refine congrArg AV.bool (Bool.eq_iff_iff.2 ?_); simp only [inR, EVB] at *; omega)) | (refine RET.eq hR ?_; first | (simp_all [inR]; done) | (simp_all [inR]; omega))))
end
end Go.Av
end
