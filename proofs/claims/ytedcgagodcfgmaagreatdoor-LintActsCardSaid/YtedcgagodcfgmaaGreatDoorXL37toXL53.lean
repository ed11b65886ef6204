/-
  LINT, 37: valid items by the program, of any kind.
-/
import Derived.Test.YtedcgagodcfgmaaGreatDoorXL33toXL34
import Derived.Test.YtedcgagodcfgmaaGreatDoorXL35toXL36
import Derived.Test.YtedcgagodcfgmaaGreatDoorXL50toXL27
import Derived.Test.YtedcgagodcfgmaaGreatDoorXL31toXL23
import Derived.Lib.ItoaLen
import Derived.Test.YtedcgagodcfgmaaGreatDoorXL25toXAv29
section
namespace Go.Av
open Go Go.RowKit Go.Proofs
set_option linter.unusedSimpArgs false
set_option linter.unusedVariables false

theorem tab_none {k : Int} (h : ¬ (0 ≤ k ∧ k ≤ 11)) : mgets k ruleTab = none := by
  simp only [ruleTab, mgets]
  rw [if_neg (by omega), if_neg (by omega), if_neg (by omega), if_neg (by omega), if_neg (by omega), if_neg (by omega), if_neg (by omega), if_neg (by omega), if_neg (by omega), if_neg (by omega), if_neg (by omega), if_neg (by omega)]

section
variable (G : Glob) (hG : GOk G)
include hG

theorem valid_none (x : Itm) (hk : ¬ (0 ≤ x.kind ∧ x.kind ≤ 11)) : Pure G Tryz.prog 30 [.agg x.cs] (.bool x.may) := by
  have hRu := f69 G hG
  have hm1 := tab_none hk
  have hkk : inR x.kind 0 11 = false := by unfold inR; simp; omega
  refine Pure.w c30 fun R hR => ?_
  unfold s30 r30
  rw [Itm.may_eq] at hR
  unfold Itm.pre at hR
  rw [hkk] at hR
  (repeat' (first | (with_reducible (first | refine split_case (fun h => ?_) (fun h => ?_) | refine gd_case (fun h => ?_) (fun h => ?_) | refine pick_case (fun h => ?_) (fun h => ?_)) <;> (try simp only [Da, Db, Dc, Dd, De, Df, Dg, Dh] at h)) | (with_reducible refine And.intro (by omega) ?_)  | simp -dsimp -implicitDefEqProofs only [EV1, EV2, EV3, EV4, EV5, seval, ↓reduceIte, reduceCtorEq, eq_self, Option.map_some, decide_true, decide_false, EV6, EV7, hm1, Option.getD_none, Option.isSome_none, hne] | simp -dsimp -implicitDefEqProofs only [EV1, EV2, EV3, EV4, EV5, seval, ↓reduceIte, reduceCtorEq, eq_self, Option.map_some, decide_true, decide_false, EV6, EV7, hm1, Option.getD_none, Option.isSome_none] | (with_reducible intro blk hblk; (try (have hnx := hblk; simp only [EVK] at hnx; first | (have hne := And.intro hnx hne) | (have hne := hnx)))) | (with_reducible refine both_case ?_ ?_) | (with_reducible refine same_case ?_) | (refine CALL_specN [] _ hRu.v (AVleA.rfl' _) (SubN.refl _) (fun r σ' hh hnd => ?_);obtain ⟨bm, rfl, rfl⟩ := hh;(have hne := hnd);(try simp [Store.keys] at hne)) | (refine same_case ?_) | (refine RAW_lookup mapK_i (l := ruleTab) (k := x.kind) (z := .agg #[.nilFunc, .nilFunc]) (zv := .agg [.sc .nilFunc, .sc .nilFunc]) (eT := 107) rfl (rep_v_33 _) (by kernel_rfl) (by first | exact sget_hd | (simp [Store.get, *]; done)) (by kernel_rfl) rep_zr_33 ?_) | (exfalso; omega)))
  all_goals (refine RET.eq hR (congrArg AV.bool ?_); simp; done)

theorem f30 : ∀ x : Itm, x.Shorts → Pure G Tryz.prog 30 [.agg x.cs] (.bool x.may) := by
  refine Itm.ind fun x ih hs => ?_
  obtain ⟨q, hby⟩ := (Itm.Shorts_eq x).1 hs
  by_cases hk : 0 ≤ x.kind ∧ x.kind ≤ 11
  · have hh : x.kind = 0 ∨ x.kind = 1 ∨ x.kind = 2 ∨ x.kind = 3 ∨ x.kind = 4 ∨ x.kind = 5 ∨ x.kind = 6 ∨ x.kind = 7 ∨ x.kind = 8 ∨ x.kind = 9 ∨ x.kind = 10 ∨ x.kind = 11 := by omega
    rcases hh with h | h | h | h | h | h | h | h | h | h | h | h
    · exact valid_0 G hG x q h
    · exact valid_1 G hG x q h
    · exact valid_2 G hG x q h
    · exact valid_3 G hG x q h
    · exact valid_4 G hG x q h
    · exact valid_5 G hG x q h
    · exact valid_6 G hG x q h
    · exact valid_7 G hG x q h
    · exact valid_8 G hG x q h
    · exact valid_9 G hG x q h
    · exact valid_10 G hG x q h
    · exact valid_11 G hG x q (fun y hy => ih y hy (hby y hy)) h
  · exact valid_none G hG x hk

/-- The table of the checks. -/
def faultRow (w : Int) (t : List UInt8) (k : Nat) : List AV := [.int .i64 w, .str t, fnv k]
def faultRows : List (List AV) := [faultRow 9 tBook 74, faultRow 9 tContain 77, faultRow 9 tSelf 81, faultRow 11 tNoEffect 83, faultRow 10 tOwnLabel 85]
omit hG in
theorem f31 : Pure G Tryz.prog 31 [] (.lst 3 faultRows) := by
  refine Pure.w c31 fun R hR => ?_
  unfold s31 r31
  (repeat' (first | (with_reducible (first | refine split_case (fun h => ?_) (fun h => ?_) | refine gd_case (fun h => ?_) (fun h => ?_) | refine pick_case (fun h => ?_) (fun h => ?_)) <;> (try simp only [Da, Db, Dc, Dd, De, Df, Dg, Dh] at h)) | (with_reducible refine And.intro (by omega) ?_)  | simp -dsimp -implicitDefEqProofs only [EV1, EV2, EV3, EV4, EV5, seval, ↓reduceIte, reduceCtorEq, eq_self, Option.map_some, decide_true, decide_false, EV6, EV7] | (with_reducible intro blk hblk; (try (have hnx := hblk; simp only [EVK] at hnx; first | (have hne := And.intro hnx hne) | (have hne := hnx)))) | (with_reducible refine both_case ?_ ?_) | (with_reducible refine same_case ?_) | (refine ⟨faultRows, rfl, (by simp [faultRows, faultRow]), rfl, ?_⟩) | (exfalso; omega)))
  exact hR _ _ (Or.inl (Or.inr ⟨rfl, rfl⟩))
end
end Go.Av
end

section
namespace Go.Av
open Go Go.RowKit Go.Proofs
set_option linter.unusedSimpArgs false
set_option linter.unusedVariables false

theorem fit_ch (c : UInt8) : fitN c.toNat = nameCh c := by
  unfold fitN nameCh isLow isDig
  rfl
theorem idxF_lt {α : Type} (p : α → Bool) (l : List α) : decide (idxF p 0 l < 0) = l.all fun x => !p x := by
  have h := idxF_ge p l 0
  have e : decide (idxF p 0 l < 0) = !decide (0 ≤ idxF p 0 l) := by rw [Bool.eq_iff_iff]; simp
  rw [e, h, List.not_any_eq_all_not]
def fromDay : List UInt8 := [102, 114, 111, 109, 32, 100, 97, 121, 32]
def byOrder : List UInt8 := [98, 121, 32, 111, 114, 100, 101, 114]
def onEvent : List UInt8 := [111, 110, 32, 101, 118, 101, 110, 116, 32]
def beginT (s : Sta) : List UInt8 :=
  if decide (s.kind = 1) && (inR s.day 0 1048576 && decide (s.event = [])) then fromDay ++ Lib.itoa s.day
  else if decide (s.kind = 2) && (decide (s.day = 0) && decide (s.event = [])) then byOrder
  else if decide (s.kind = 3) && (decide (s.day = 0) && nameOk s.event) then onEvent ++ s.event else []
theorem beginT_ne (s : Sta) : decide (beginT s ≠ []) = startAct s := by
  unfold beginT startAct
  generalize inR s.day 0 1048576 = q1
  generalize nameOk s.event = q2
  by_cases h1 : s.kind = 1
  · have h2 : ¬ s.kind = 2 := by omega
    have h3 : ¬ s.kind = 3 := by omega
    simp [h1, h2, h3]
    cases q1 <;> by_cases he : s.event = [] <;> simp [he, fromDay]
  · by_cases h2 : s.kind = 2
    · have h3 : ¬ s.kind = 3 := by omega
      simp [h1, h2, h3]
      by_cases h4 : s.day = 0 <;> by_cases he : s.event = [] <;> simp [h4, he, byOrder]
    · by_cases h3 : s.kind = 3
      · simp [h1, h2, h3]
        by_cases h4 : s.day = 0 <;> cases q2 <;> simp [h4, onEvent]
      · simp [h1, h2, h3]

section
variable (G : Glob)
theorem f214 (b n : Nat) : FnSpec G Tryz.prog 214 [.int .i32 (n : Int), .sc (.pointer (some ⟨b, 0, none⟩))] (fitS b) fun x σ' => x = .bool (!fitN n) ∧ σ' = fitS b := by
  have h1 := f212 G n
  refine FnSpec.wk c214 fun R hR => ?_
  unfold s214 r214 fitS
  (repeat' (first | (with_reducible refine CALL_pure (h1) ?_) | simp -dsimp -implicitDefEqProofs only [EV1, EV2, EV3, EV4, EV5, seval, ↓reduceIte, reduceCtorEq, eq_self, Option.map_some, decide_true, decide_false, EV6, EV7]))
  exact hR _ _ (AVle.rfl' _) (SubN.refl _)
theorem f146 (s : List UInt8) : Pure G Tryz.prog 146 [.str s] (.bool (nameOk s)) := by
  have hI : ∀ b, FnSpec G Tryz.prog 213 _ (fitS b) _ := fun b => index_k G 214 b (fun n => !fitN n) s (fitS_det b) (enters_of Tryz.func214 (by kernel_rfl) rfl) (fun n hn => by simp [fitN]; omega) (fun n => f214 G b n)
  unfold fitS at hI
  have e1 : decide (idxF (fun c : UInt8 => !fitN c.toNat) 0 s < 0) = s.all nameCh := by
    rw [idxF_lt]
    simp only [Bool.not_not, fit_ch]
  refine Pure.w c146 fun R hR => ?_
  unfold s146 r146
  (repeat' (first | (with_reducible (refine gd_case (fun h => ?_) (fun h => ?_)) <;> (try simp only [Da, Db, Dc, Dd, De, Df, Dg, Dh] at h)) | (with_reducible refine And.intro (by omega) ?_) | simp -dsimp -implicitDefEqProofs only [EV1, EV2, EV3, EV4, EV5, seval, ↓reduceIte, reduceCtorEq, eq_self, Option.map_some, decide_true, decide_false, EV6, EV7, e1] | (with_reducible intro blk hblk; (try (have hnx := hblk; simp only [EVK] at hnx; (have hne := hnx)))) | (refine CALL_keep (hI _).v ?_)))
  (all_goals (first | (refine RET.eq hR ?_; (refine congrArg AV.bool (Bool.eq_iff_iff.2 ?_); simp only [nameOk, isLow, EVB] at *; omega)) | (refine RET.eq hR ?_; ((simp_all [nameOk, isLow]; done)))))

set_option maxRecDepth 100000 in
theorem f89 (hG : GOk2 G) (s : Sta) (he : s.event.length < 1000000000000000000) : Pure G Tryz.prog 89 [.agg [.int .i64 s.kind, .int .i64 s.day, .str s.event]] (.str (beginT s)) := by
  have hN := f146 G s.event
  refine Pure.w c89 fun R hR => ?_
  unfold s89 r89
  unfold beginT at hR
  cases hd : inR s.day 0 1048576 with
  | true =>
    have hd2 := hd
    unfold inR at hd2
    simp only [Bool.and_eq_true, decide_eq_true_eq] at hd2
    have hi := f145 G hG s.day (by omega) (by omega)
    have hil := Lib.itoa_length_le s.day (by omega) (by omega)
    (repeat' (first | (with_reducible (first | refine split_case (fun h => ?_) (fun h => ?_) | refine gd_case (fun h => ?_) (fun h => ?_)) <;> (try simp only [Da, Db, Dc, Dd, De, Df, Dg, Dh] at h)) | (with_reducible refine And.intro (by omega) ?_) | (with_reducible refine CALL_pure (f88 G _) ?_) | (with_reducible refine CALL_pure (hN) ?_) | (with_reducible refine CALL_pure (hi) ?_) | simp -dsimp -implicitDefEqProofs only [EV1, EV2, EV3, EV4, EV5, seval, ↓reduceIte, reduceCtorEq, eq_self, Option.map_some, decide_true, decide_false, EV6, EV7, hd] | (exfalso; omega)))
    (all_goals (((refine RET.eq hR ?_; ((simp_all [fromDay, byOrder, onEvent]; done))))))
  | false =>
    (repeat' (first | (with_reducible (first | refine split_case (fun h => ?_) (fun h => ?_) | refine gd_case (fun h => ?_) (fun h => ?_)) <;> (try simp only [Da, Db, Dc, Dd, De, Df, Dg, Dh] at h)) | (with_reducible refine And.intro (by omega) ?_) | (with_reducible refine CALL_pure (f88 G _) ?_) | (with_reducible refine CALL_pure (hN) ?_) | simp -dsimp -implicitDefEqProofs only [EV1, EV2, EV3, EV4, EV5, seval, ↓reduceIte, reduceCtorEq, eq_self, Option.map_some, decide_true, decide_false, EV6, EV7, hd] | (exfalso; omega)))
    (all_goals (((refine RET.eq hR ?_; ((simp_all [fromDay, byOrder, onEvent]; done))))))

variable (hG : GOk G)
include hG
theorem f86 (x : Itm) (hs : x.Shorts) : Pure G Tryz.prog 86 [.agg x.cs] (.bool (!x.may)) := by
  refine Pure.w c86 fun R hR => ?_
  unfold s86 r86
  (repeat' (first | (with_reducible refine CALL_pure (f30 G hG x hs) ?_) | simp -dsimp -implicitDefEqProofs only [EV1, EV2, EV3, EV4, EV5, seval, ↓reduceIte, reduceCtorEq, eq_self, Option.map_some, decide_true, decide_false, EV6, EV7]))
  (all_goals ((exact RET.eq hR rfl)))
theorem f39 (hG2 : GOk2 G) (a : Ac) (ht : a.title.length < 4294967281) (he : a.start.event.length < 1000000000000000000) (hl : a.items.length < 9000000000000000000) (hs : ∀ x ∈ a.items, x.Shorts) : Pure G Tryz.prog 39 [.agg a.cs] (.bool a.may) := by
  have hT := f87 G hG2 a.title ht
  have hB := f89 G hG2 a.start he
  have hC : Pure G Tryz.prog _ _ _ := f40k G [] (.func (.func 86) #[] #[]) (fun x => !x.may) a.items hl (fun x hx => (f86 G hG x (hs x hx)).v)
  have e1 := beginT_ne a.start
  refine Pure.w c39 fun R hR => ?_
  unfold s39 r39 Ac.cs
  unfold Ac.may at hR
  generalize titleOk a.title = q1 at *
  generalize startAct a.start = q2 at *
  (repeat' (first | (with_reducible (refine gd_case (fun h => ?_) (fun h => ?_)) <;> (try simp only [Da, Db, Dc, Dd, De, Df, Dg, Dh] at h)) | (with_reducible refine CALL_pure (hT) ?_) | (with_reducible refine CALL_pure (f88 G _) ?_) | (with_reducible refine CALL_pure (hB) ?_) | (with_reducible refine CALL_pure (hC) ?_) | simp -dsimp -implicitDefEqProofs only [EV1, EV2, EV3, EV4, EV5, seval, ↓reduceIte, reduceCtorEq, eq_self, Option.map_some, decide_true, decide_false, EV6, EV7, e1, all_any]))
  (all_goals (first | (refine RET.eq hR ?_; (refine congrArg AV.bool (Bool.eq_iff_iff.2 ?_); simp only [inR, EVB] at *; omega)) | (refine RET.eq hR ?_; first | (simp_all [inR]; done) | (simp_all [inR]; omega))))
end
end Go.Av
end

section
namespace Go.Av
open Go Go.RowKit Go.Proofs
set_option linter.unusedSimpArgs false
set_option linter.unusedVariables false

def tMissing : List UInt8 := [110, 111, 32, 115, 117, 99, 104, 32, 105, 116, 101, 109]
def tNotAm : List UInt8 := [110, 111, 116, 32, 97, 110, 32, 97, 109, 101, 110, 100, 109, 101, 110, 116]
def tDup : List UInt8 := [100, 117, 112, 108, 105, 99, 97, 116, 101]
def ownB (a : Ac) (x : Itm) : Bool := (decide (x.kind = 7) || (decide (x.kind = 8) || (decide (x.kind = 9) || decide (x.kind = 11)))) && decide (x.act = a.number)
def misB (a : Ac) (x : Itm) : Bool := decide ((a.items.length : Int) ≤ x.item)
def notB (a : Ac) (x : Itm) : Bool := decide (0 ≤ x.item) && !inR (a.items.getD x.item.toNat iz).kind 0 6
def ownF (a : Ac) (x : Itm) : List Fnd := if ownB a x then (if misB a x then [fw 4 tMissing] else optF (notB a x) (fw 9 tNotAm)) else []
def dupB (a : Ac) (i : Nat) (x : Itm) : Bool := (a.items.take i).any fun y => decide (y = x)
def Ac.fnds (a : Ac) (i : Nat) (x : Itm) : List Fnd := x.finds ++ (optF (dupB a i x) (fw 5 tDup) ++ ownF a x)
def Fnd.put (n : Int) (f : Fnd) : Fnd := { f with at_ := n }
def Ac.chkFrom (a : Ac) : Nat → List Itm → List Fnd
  | _, [] => []
  | i, x :: r => (a.fnds i x).map (Fnd.put i) ++ a.chkFrom (i + 1) r
def actFnd0 : Fnd := ⟨-1, ⟨0, 0, 0⟩, 1, [97, 99, 116]⟩
def Ac.chk (a : Ac) : List Fnd := if a.may then a.chkFrom 0 a.items else [actFnd0]
theorem ownF_len (a : Ac) (x : Itm) : (ownF a x).length ≤ 1 := by unfold ownF optF; split <;> (try split) <;> (try split) <;> simp
end Go.Av
end

section
namespace Go.Av
open Go Go.RowKit Go.Proofs
set_option linter.unusedSimpArgs false
set_option linter.unusedVariables false

def ownP (a : Ac) (x : Itm) : Fnd × Bool := if ownB a x then (if misB a x then (fw 4 tMissing, true) else if notB a x then (fw 9 tNotAm, true) else (fw 0 [], false)) else (fw 0 [], false)
theorem ownP_F (a : Ac) (x : Itm) : ownF a x = optF (ownP a x).2 (ownP a x).1 := by
  unfold ownF ownP
  split <;> (try split) <;> (try split) <;> simp_all [optF]
theorem itm_getD (l : List Itm) (n : Int) (h0 : 0 ≤ n) (h1 : n < l.length) : (l.map Itm.cs).getD n.toNat [] = (l.getD n.toNat iz).cs := by
  have h : n.toNat < l.length := by omega
  simp [List.getD, h]

section
variable (G : Glob)
theorem f43 (a : Ac) (x : Itm) (hl : a.items.length < 9000000000000000000) : Pure G Tryz.prog 43 [.agg a.cs, .agg x.cs] (.tup [.agg (ownP a x).1.cs, .bool (ownP a x).2]) := by
  have hN := f94 G x.kind
  have hb : ownB a x = ((decide (x.kind = 7) || decide (x.kind = 8) || decide (x.kind = 9) || decide (x.kind = 11)) && decide (x.act = a.number)) := by unfold ownB; simp only [Bool.or_assoc]
  unfold ownP at *
  rw [hb]
  generalize (decide (x.kind = 7) || decide (x.kind = 8) || decide (x.kind = 9) || decide (x.kind = 11)) = q at *
  refine Pure.w c43 fun R hR => ?_
  unfold s43 r43 Ac.cs
  unfold notB misB at hR
  by_cases h0 : 0 ≤ x.item
  · have e0 : decide (0 ≤ x.item) = true := decide_eq_true h0
    by_cases h1 : x.item < a.items.length
    · have e1 : decide ((a.items.length : Int) ≤ x.item) = false := decide_eq_false (by omega)
      have hg := itm_getD a.items x.item h0 h1
      rw [e0, e1] at hR
      generalize a.items.getD x.item.toNat iz = y at *
      have hI := f70 G y.kind
      generalize inR y.kind 0 6 = q2 at *
      (repeat' (first | (with_reducible (first | refine split_case (fun h => ?_) (fun h => ?_) | refine gd_case (fun h => ?_) (fun h => ?_)) <;> (try simp only [Da, Db, Dc, Dd, De, Df, Dg, Dh] at h)) | (with_reducible refine And.intro (by omega) ?_) | (with_reducible refine CALL_pure (hN) ?_) | (with_reducible refine CALL_pure (hI) ?_) | simp -dsimp -implicitDefEqProofs only [EV1, EV2, EV3, EV4, EV5, seval, ↓reduceIte, reduceCtorEq, eq_self, Option.map_some, decide_true, decide_false, EV6, EV7, hg] | (with_reducible intro blk hblk; (try (have hnx := hblk; simp only [EVK] at hnx; (have hne := hnx)))) | (exfalso; omega)))
      all_goals (refine hR _ _ (Or.inl (Or.inl ?_)))
      all_goals (clear hR; simp_all [fw, Fnd.cs, tMissing, tNotAm]; done)
    · have e1 : decide ((a.items.length : Int) ≤ x.item) = true := decide_eq_true (by omega)
      rw [e0, e1] at hR
      (repeat' (first | (with_reducible (first | refine split_case (fun h => ?_) (fun h => ?_) | refine gd_case (fun h => ?_) (fun h => ?_)) <;> (try simp only [Da, Db, Dc, Dd, De, Df, Dg, Dh] at h)) | (with_reducible refine And.intro (by omega) ?_) | (with_reducible refine CALL_pure (hN) ?_) | simp -dsimp -implicitDefEqProofs only [EV1, EV2, EV3, EV4, EV5, seval, ↓reduceIte, reduceCtorEq, eq_self, Option.map_some, decide_true, decide_false, EV6, EV7] | (with_reducible intro blk hblk; (try (have hnx := hblk; simp only [EVK] at hnx; (have hne := hnx)))) | (exfalso; omega)))
      all_goals (refine hR _ _ (Or.inl (Or.inl ?_)))
      all_goals (clear hR; simp_all [fw, Fnd.cs, tMissing, tNotAm]; done)
  · have e0 : decide (0 ≤ x.item) = false := decide_eq_false h0
    have e1 : decide ((a.items.length : Int) ≤ x.item) = false := decide_eq_false (by omega)
    rw [e0, e1] at hR
    (repeat' (first | (with_reducible (first | refine split_case (fun h => ?_) (fun h => ?_) | refine gd_case (fun h => ?_) (fun h => ?_)) <;> (try simp only [Da, Db, Dc, Dd, De, Df, Dg, Dh] at h)) | (with_reducible refine And.intro (by omega) ?_) | (with_reducible refine CALL_pure (hN) ?_) | simp -dsimp -implicitDefEqProofs only [EV1, EV2, EV3, EV4, EV5, seval, ↓reduceIte, reduceCtorEq, eq_self, Option.map_some, decide_true, decide_false, EV6, EV7] | (with_reducible intro blk hblk; (try (have hnx := hblk; simp only [EVK] at hnx; (have hne := hnx)))) | (exfalso; omega)))
    all_goals (refine hR _ _ (Or.inl (Or.inl ?_)))
    all_goals (clear hR; simp_all [fw, Fnd.cs, tMissing, tNotAm]; done)
end
end Go.Av
end
