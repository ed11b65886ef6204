/-
  ENACT, M31: an item applied.
-/
import Derived.Test.YtcecmifknojgeaaGreatDoorXM27toXM30
import Derived.Test.YtcecmifknojgeaaGreatDoorXL34toXL54
import Derived.Test.YtcecmifknojgeaaGreatDoorXE16toXC7
section
namespace Go.Av
open Go Go.RowKit Go.Proofs
set_option linter.unusedSimpArgs false
set_option linter.unusedVariables false

def doTab : List (Int × AV) := [(0, fnv 59), (1, fnv 60), (2, fnv 61), (3, fnv 62), (4, fnv 63), (5, fnv 64), (6, fnv 65)]
theorem rep_nilF : ∀ τ w, Rep τ w (.sc .nilFunc) .nilFunc := by
  intro τ w
  simp only [Rep]
theorem do_none {k : Int} (h : ¬ (0 ≤ k ∧ k ≤ 6)) : mgets k doTab = none := by
  simp only [doTab, mgets]
  rw [if_neg (by omega), if_neg (by omega), if_neg (by omega), if_neg (by omega), if_neg (by omega), if_neg (by omega), if_neg (by omega)]
theorem may_cnt {x : Itm} (h : x.may = true) (hk : x.kind = 0) : x.unit.flat.length ≤ 1024 := by
  have := may_own h
  unfold Itm.own at this
  simp only [hk, if_true, Bool.and_eq_true] at this
  have h2 := this.2.1
  rw [bareOk_two] at h2
  unfold bareOk2 treeOk2 at h2
  simp only [Bool.and_eq_true, decide_eq_true_eq] at h2
  have h3 := h2.1.2.2.1
  unfold U.cnt at h3
  omega
theorem may_edit {x : Itm} (h : x.may = true) (hk : x.kind = 2 ∨ x.kind = 3) : x.old.length ≤ 256 ∧ x.new.length ≤ 256 ∧ (0 ≤ x.nth ∧ x.nth ≤ 256) ∧ (x.kind = 2 → x.old ≠ []) ∧ (x.kind = 3 → 1 ≤ x.new.length ∧ (x.old = [] → x.nth = 0)) := by
  have := may_own h
  unfold Itm.own okRow inR at this
  rcases hk with hk | hk
  · rw [if_neg (by omega), if_pos hk] at this
    simp only [Bool.and_eq_true, decide_eq_true_eq] at this
    obtain ⟨⟨a1, a2⟩, ⟨b1, b2⟩, c1, c2⟩ := this
    refine ⟨(seqOk_all a1).2, (seqOk_all b1).2, ⟨c1, c2⟩, fun _ e => ?_, fun e => ?_⟩
    · rw [e] at a2; simp at a2
    · omega
  · rw [if_neg (by omega), if_neg (by omega), if_pos hk] at this
    simp only [Bool.and_eq_true, Bool.or_eq_true, decide_eq_true_eq] at this
    obtain ⟨⟨a1, a2⟩, ⟨b1, b2⟩, ⟨c1, c2⟩, d1⟩ := this
    refine ⟨(seqOk_all a1).2, (seqOk_all b1).2, ⟨c1, c2⟩, fun e => ?_, fun _ => ⟨by omega, fun e => ?_⟩⟩
    · omega
    · rcases d1 with d1 | d1
      · rw [e] at d1; simp at d1
      · exact d1
theorem may_newlen {x : Itm} (h : x.may = true) (hk : x.kind = 4) : x.new.length ≤ 256 := (seqOk_all (may_new h (.inr (.inr hk)))).2

section
variable (G : Glob) (hG : GOk G)
include hG

omit hG in
theorem f37 : FnSpec G Tryz.prog 37 [] [] (fun r σ => ∃ b, r = .sc (.map (some b)) ∧ σ = [(b, .map (mrows intK doTab))]) := by
  refine FnSpec.w c37 ?_
  unfold s37 r37
  (try simp -dsimp -implicitDefEqProofs only [EVz, seval, ↓reduceIte, reduceCtorEq, EV6, EV7])
  refine RAW_makeMap ?_
  intro b hb
  (try simp -dsimp -implicitDefEqProofs only [EVz, seval, ↓reduceIte, reduceCtorEq, EV6, EV7])
  refine RAW_insert mapK_i (l := []) (k := 0) (eT := 83) rfl (rep_ci 0) rfl (by kernel_rfl) sget_hd ?_
  (repeat' (first | simp -dsimp -implicitDefEqProofs only [EVz, seval, ↓reduceIte, reduceCtorEq, EV6, EV7] | (refine RAW_insert mapK_i (eT := 83) rfl (rep_ci _) rfl (by kernel_rfl) sget_hd ?_) | fail))
  exact RET.mk (SubN.refl _) ⟨b, rfl, rfl⟩

omit hG in
set_option maxHeartbeats 8000000 in
theorem apply_none (u : U) (hu : Good u) (d : Dd) (hk : ¬ (0 ≤ d.it.kind ∧ d.it.kind ≤ 6)) : Pure G Tryz.prog 14 [.agg u.cs, .agg d.cs] (resAV (u, 1)) := by
  have hD := f37 G
  have hm1 := do_none hk
  have hcs := U.cs_eq u
  unfold Dd.cs resAV
  rw [Itm.cs_eq, hcs]
  refine Pure.w c14 fun R hR => ?_
  unfold s14 r14
  (repeat' (first | simp -dsimp -implicitDefEqProofs only [EVz, seval, ↓reduceIte, reduceCtorEq, EV6, EV7, hm1, Option.getD_none, Option.isSome_none, hne] | simp -dsimp -implicitDefEqProofs only [EVz, seval, ↓reduceIte, reduceCtorEq, EV6, EV7, hm1, Option.getD_none, Option.isSome_none] | (with_reducible intro blk hblk; (try (have hnx := hblk; simp only [EVK] at hnx; (have hne := hnx)))) | (refine CALL_specN [] _ hD.v (AVleA.rfl' _) (SubN.refl _) (fun r σ' hh hnd => ?_);obtain ⟨bm, rfl, rfl⟩ := hh;(have hne := hnd);(try simp [Store.keys] at hne)) | (refine RAW_lookup mapK_i (l := doTab) (k := d.it.kind) (z := .nilFunc) (zv := .sc .nilFunc) (eT := 83) rfl (rep_v_33 _) (by kernel_rfl) (by exact sget_hd) (by kernel_rfl) rep_nilF ?_) | fail))
  all_goals exact hR _ _ (.inl (.inl rfl))

set_option maxHeartbeats 8000000 in
theorem apply_of (u : U) (hu : Good u) (d : Dd) (hs : d.it.Shorts) (fn : Nat) (hm1 : mgets d.it.kind doTab = some (fnv fn)) (q : U × Int)
    (hq : d.it.may = true → (one u d.it.at_).2 = 0 → (d.it.kind = 0 ∨ (one u d.it.at_).1 ≠ u.id) → Pure G Tryz.prog fn [.agg u.cs, .agg (fnd (one u d.it.at_).1 u).cs, .agg d.cs] (resAV q)) :
    Pure G Tryz.prog 14 [.agg u.cs, .agg d.cs] (resAV (if d.it.may = false then (u, 1) else if (one u d.it.at_).2 ≠ 0 then (u, (one u d.it.at_).2) else if d.it.kind = 0 ∨ (one u d.it.at_).1 ≠ u.id then q else if d.it.kind = 6 ∧ (one u d.it.to_).2 ≠ 0 then (u, (one u d.it.to_).2) else (u, 9))) := by
  have hsh := hu.short
  obtain ⟨q1, _⟩ := (Itm.Shorts_eq d.it).1 hs
  have hV := f38 G hG d.it hs
  have hO := f39 G u d.it.at_ hsh.1 hu.cnt q1.at_
  have hO2 := f39 G u d.it.to_ hsh.1 hu.cnt q1.to_
  have hD := f37 G
  have hid := one_mem (u := u) (p := d.it.at_)
  have hFF := fun i => f31 G i u hsh
  unfold oneAV at hO hO2
  obtain ⟨⟨i, e⟩, hie⟩ : ∃ z, one u d.it.at_ = z := ⟨_, rfl⟩
  obtain ⟨⟨t, e'⟩, hte⟩ : ∃ z, one u d.it.to_ = z := ⟨_, rfl⟩
  rw [hie] at hO hid hq ⊢
  rw [hte] at hO2 ⊢
  simp only at hO hO2 hid hq ⊢
  obtain ⟨mv, hmv⟩ : ∃ b, d.it.may = b := ⟨_, rfl⟩
  rw [hmv] at hV hq ⊢
  have hcs := U.cs_eq u
  obtain ⟨f, hf⟩ : ∃ f, fnv fn = .sc f := ⟨_, rfl⟩
  have hfv : f = .func (.func fn) #[] #[] := by unfold fnv at hf; injection hf with hf; exact hf.symm
  rw [hf] at hm1
  unfold Dd.cs at hq ⊢
  rw [Itm.cs_eq] at hV hq ⊢
  unfold resAV at hq ⊢
  refine Pure.w c14 fun R hR => ?_
  unfold s14 r14
  cases mv with
  | false =>
    rw [if_pos rfl] at hR
    rw [hcs] at hR ⊢
    (repeat' (first | (with_reducible refine CALL_pure (hV) ?_) | simp -dsimp -implicitDefEqProofs only [EVz, seval, ↓reduceIte, reduceCtorEq, EV6, EV7, hm1, Option.getD_some, Option.isSome_some, hne] | simp -dsimp -implicitDefEqProofs only [EVz, seval, ↓reduceIte, reduceCtorEq, EV6, EV7, hm1, Option.getD_some, Option.isSome_some] | (with_reducible intro blk hblk; (try (have hnx := hblk; simp only [EVK] at hnx; (have hne := hnx)))) | (refine CALL_specN [] _ hD.v (AVleA.rfl' _) (SubN.refl _) (fun r σ' hh hnd => ?_);obtain ⟨bm, rfl, rfl⟩ := hh;(have hne := hnd);(try simp [Store.keys] at hne)) | (refine RAW_lookup mapK_i (l := doTab) (k := d.it.kind) (z := .nilFunc) (zv := .sc .nilFunc) (eT := 83) rfl (rep_v_33 _) (by kernel_rfl) (by exact sget_hd) (by kernel_rfl) rep_nilF ?_) | fail))
    all_goals exact hR _ _ (.inl (.inl rfl))
  | true =>
    rw [if_neg (by simp)] at hR
    rcases Classical.em (e = 0) with h | h
    · subst h
      rw [if_neg (by simp)] at hR
      have hi := hid rfl
      have hF := hFF i
      unfold fndAV at hF
      rw [fnd_way hi, if_neg (by simp)] at hF
      clear hFF hid
      obtain ⟨X, hX⟩ : ∃ X, fnd i u = X := ⟨_, rfl⟩
      rw [hX] at hF hq
      rcases Classical.em (d.it.kind = 0 ∨ i ≠ u.id) with g | g
      · rw [if_pos g] at hR
        have hC := (hq rfl rfl g).v
        rw [← hfv] at hC
        rw [hcs] at hO hF hC ⊢
        simp only [Idd.cs] at hF
        rcases Classical.em (i = u.id) with g1 | g1
        · have g0 : d.it.kind = 0 := g.resolve_right (fun h => h g1)
          have e1 : decide (i = u.id) = true := decide_eq_true g1
          have e2 : decide (d.it.kind = 0) = true := decide_eq_true g0
          (repeat' (first | (with_reducible refine CALL_pure (hV) ?_) | (with_reducible refine CALL_pure (hO) ?_) | (with_reducible refine CALL_pure (hF) ?_) | simp -dsimp -implicitDefEqProofs only [EVz, seval, ↓reduceIte, reduceCtorEq, EV6, EV7, hm1, Option.getD_some, Option.isSome_some, idd_eq, e1, e2, hne] | simp -dsimp -implicitDefEqProofs only [EVz, seval, ↓reduceIte, reduceCtorEq, EV6, EV7, hm1, Option.getD_some, Option.isSome_some, idd_eq, e1, e2] | (with_reducible intro blk hblk; (try (have hnx := hblk; simp only [EVK] at hnx; first | (have hne := And.intro hnx hne) | (have hne := hnx)))) | (refine CALL_specN [] _ hD.v (AVleA.rfl' _) (SubN.refl _) (fun r σ' hh hnd => ?_);obtain ⟨bm, rfl, rfl⟩ := hh;(have hne := hnd);(try simp [Store.keys] at hne)) | (refine RAW_lookup mapK_i (l := doTab) (k := d.it.kind) (z := .nilFunc) (zv := .sc .nilFunc) (eT := 83) rfl (rep_v_33 _) (by kernel_rfl) (by exact sget_hd) (by kernel_rfl) rep_nilF ?_) | (refine CALL_vpure hC ?_) | fail))
          all_goals exact hR _ _ (.inl (.inl rfl))
        · have e1 : decide (i = u.id) = false := decide_eq_false g1
          (repeat' (first | (with_reducible refine CALL_pure (hV) ?_) | (with_reducible refine CALL_pure (hO) ?_) | (with_reducible refine CALL_pure (hF) ?_) | simp -dsimp -implicitDefEqProofs only [EVz, seval, ↓reduceIte, reduceCtorEq, EV6, EV7, hm1, Option.getD_some, Option.isSome_some, idd_eq, e1, hne] | simp -dsimp -implicitDefEqProofs only [EVz, seval, ↓reduceIte, reduceCtorEq, EV6, EV7, hm1, Option.getD_some, Option.isSome_some, idd_eq, e1] | (with_reducible intro blk hblk; (try (have hnx := hblk; simp only [EVK] at hnx; first | (have hne := And.intro hnx hne) | (have hne := hnx)))) | (refine CALL_specN [] _ hD.v (AVleA.rfl' _) (SubN.refl _) (fun r σ' hh hnd => ?_);obtain ⟨bm, rfl, rfl⟩ := hh;(have hne := hnd);(try simp [Store.keys] at hne)) | (refine RAW_lookup mapK_i (l := doTab) (k := d.it.kind) (z := .nilFunc) (zv := .sc .nilFunc) (eT := 83) rfl (rep_v_33 _) (by kernel_rfl) (by exact sget_hd) (by kernel_rfl) rep_nilF ?_) | (refine CALL_vpure hC ?_) | fail))
          all_goals exact hR _ _ (.inl (.inl rfl))
      · rw [if_neg g] at hR
        rw [not_or, Classical.not_not] at g
        obtain ⟨g0, g1⟩ := g
        have e1 : decide (i = u.id) = true := decide_eq_true g1
        have e2 : decide (d.it.kind = 0) = false := decide_eq_false g0
        rw [hcs] at hO hO2 hF ⊢
        simp only [Idd.cs] at hF
        rcases Classical.em (d.it.kind = 6) with k6 | k6
        · have e3 : decide (d.it.kind = 6) = true := decide_eq_true k6
          rcases Classical.em (e' = 0) with h' | h'
          · subst h'
            rw [if_neg (by simp)] at hR
            simp only at hR
            rw [hcs] at hR
            (repeat' (first | (with_reducible refine CALL_pure (hV) ?_) | (with_reducible refine CALL_pure (hO) ?_) | (with_reducible refine CALL_pure (hO2) ?_) | (with_reducible refine CALL_pure (hF) ?_) | simp -dsimp -implicitDefEqProofs only [EVz, seval, ↓reduceIte, reduceCtorEq, EV6, EV7, hm1, Option.getD_some, Option.isSome_some, idd_eq, e1, e2, e3, hne] | simp -dsimp -implicitDefEqProofs only [EVz, seval, ↓reduceIte, reduceCtorEq, EV6, EV7, hm1, Option.getD_some, Option.isSome_some, idd_eq, e1, e2, e3] | (with_reducible intro blk hblk; (try (have hnx := hblk; simp only [EVK] at hnx; first | (have hne := And.intro hnx hne) | (have hne := hnx)))) | (refine CALL_specN [] _ hD.v (AVleA.rfl' _) (SubN.refl _) (fun r σ' hh hnd => ?_);obtain ⟨bm, rfl, rfl⟩ := hh;(have hne := hnd);(try simp [Store.keys] at hne)) | (refine RAW_lookup mapK_i (l := doTab) (k := d.it.kind) (z := .nilFunc) (zv := .sc .nilFunc) (eT := 83) rfl (rep_v_33 _) (by kernel_rfl) (by exact sget_hd) (by kernel_rfl) rep_nilF ?_) | fail))
            all_goals exact hR _ _ (.inl (.inl rfl))
          · rw [if_pos ⟨k6, h'⟩] at hR
            simp only at hR
            rw [hcs] at hR
            (repeat' (first | (with_reducible (refine split_case (fun h => ?_) (fun h => ?_)) <;> (try simp only [Da, Db, Dc, Dw, De, Df, Dg, Dh] at h)) | (with_reducible refine CALL_pure (hV) ?_) | (with_reducible refine CALL_pure (hO) ?_) | (with_reducible refine CALL_pure (hO2) ?_) | (with_reducible refine CALL_pure (hF) ?_) | simp -dsimp -implicitDefEqProofs only [EVz, seval, ↓reduceIte, reduceCtorEq, EV6, EV7, hm1, Option.getD_some, Option.isSome_some, idd_eq, e1, e2, e3, h', hne] | simp -dsimp -implicitDefEqProofs only [EVz, seval, ↓reduceIte, reduceCtorEq, EV6, EV7, hm1, Option.getD_some, Option.isSome_some, idd_eq, e1, e2, e3, h'] | (with_reducible intro blk hblk; (try (have hnx := hblk; simp only [EVK] at hnx; first | (have hne := And.intro hnx hne) | (have hne := hnx)))) | (refine CALL_specN [] _ hD.v (AVleA.rfl' _) (SubN.refl _) (fun r σ' hh hnd => ?_);obtain ⟨bm, rfl, rfl⟩ := hh;(have hne := hnd);(try simp [Store.keys] at hne)) | (refine RAW_lookup mapK_i (l := doTab) (k := d.it.kind) (z := .nilFunc) (zv := .sc .nilFunc) (eT := 83) rfl (rep_v_33 _) (by kernel_rfl) (by exact sget_hd) (by kernel_rfl) rep_nilF ?_) | (exfalso; omega) | fail))
            all_goals exact hR _ _ (.inl (.inl rfl))
        · have e3 : decide (d.it.kind = 6) = false := decide_eq_false k6
          rw [if_neg (fun h => k6 h.1)] at hR
          simp only at hR
          rw [hcs] at hR
          (repeat' (first | (with_reducible refine CALL_pure (hV) ?_) | (with_reducible refine CALL_pure (hO) ?_) | (with_reducible refine CALL_pure (hF) ?_) | simp -dsimp -implicitDefEqProofs only [EVz, seval, ↓reduceIte, reduceCtorEq, EV6, EV7, hm1, Option.getD_some, Option.isSome_some, idd_eq, e1, e2, e3, hne] | simp -dsimp -implicitDefEqProofs only [EVz, seval, ↓reduceIte, reduceCtorEq, EV6, EV7, hm1, Option.getD_some, Option.isSome_some, idd_eq, e1, e2, e3] | (with_reducible intro blk hblk; (try (have hnx := hblk; simp only [EVK] at hnx; first | (have hne := And.intro hnx hne) | (have hne := hnx)))) | (refine CALL_specN [] _ hD.v (AVleA.rfl' _) (SubN.refl _) (fun r σ' hh hnd => ?_);obtain ⟨bm, rfl, rfl⟩ := hh;(have hne := hnd);(try simp [Store.keys] at hne)) | (refine RAW_lookup mapK_i (l := doTab) (k := d.it.kind) (z := .nilFunc) (zv := .sc .nilFunc) (eT := 83) rfl (rep_v_33 _) (by kernel_rfl) (by exact sget_hd) (by kernel_rfl) rep_nilF ?_) | fail))
          all_goals exact hR _ _ (.inl (.inl rfl))
    · rw [if_pos h] at hR
      rw [hcs] at hO hR ⊢
      (repeat' (first | (with_reducible (refine split_case (fun h => ?_) (fun h => ?_)) <;> (try simp only [Da, Db, Dc, Dw, De, Df, Dg, Dh] at h)) | (with_reducible refine CALL_pure (hV) ?_) | (with_reducible refine CALL_pure (hO) ?_) | simp -dsimp -implicitDefEqProofs only [EVz, seval, ↓reduceIte, reduceCtorEq, EV6, EV7, hm1, Option.getD_some, Option.isSome_some, h, hne] | simp -dsimp -implicitDefEqProofs only [EVz, seval, ↓reduceIte, reduceCtorEq, EV6, EV7, hm1, Option.getD_some, Option.isSome_some, h] | (with_reducible intro blk hblk; (try (have hnx := hblk; simp only [EVK] at hnx; first | (have hne := And.intro hnx hne) | (have hne := hnx)))) | (refine CALL_specN [] _ hD.v (AVleA.rfl' _) (SubN.refl _) (fun r σ' hh hnd => ?_);obtain ⟨bm, rfl, rfl⟩ := hh;(have hne := hnd);(try simp [Store.keys] at hne)) | (refine RAW_lookup mapK_i (l := doTab) (k := d.it.kind) (z := .nilFunc) (zv := .sc .nilFunc) (eT := 83) rfl (rep_v_33 _) (by kernel_rfl) (by exact sget_hd) (by kernel_rfl) rep_nilF ?_) | (exfalso; omega) | fail))
      all_goals exact hR _ _ (.inl (.inl rfl))
end
end Go.Av
end

section
namespace Go.Av
open Go Go.RowKit Go.Proofs
set_option linter.unusedSimpArgs false
set_option linter.unusedVariables false

theorem doP_two (u : U) (d : Dd) (hc : chg d.it.kind = true) (q : U × Int) (h : d.it.may = true → (one u d.it.at_).2 = 0 → (d.it.kind = 0 ∨ (one u d.it.at_).1 ≠ u.id) → doP u d = q) :
    doP u d = if d.it.may = false then (u, 1) else if (one u d.it.at_).2 ≠ 0 then (u, (one u d.it.at_).2) else if d.it.kind = 0 ∨ (one u d.it.at_).1 ≠ u.id then q else if d.it.kind = 6 ∧ (one u d.it.to_).2 ≠ 0 then (u, (one u d.it.to_).2) else (u, 9) := by
  by_cases hm : d.it.may = false
  · rw [if_pos hm]; unfold doP; rw [if_pos (.inr hm)]
  · rw [if_neg hm]
    have hm' : d.it.may = true := by simpa using hm
    by_cases ho : (one u d.it.at_).2 = 0
    · rw [if_neg (by simpa using ho)]
      by_cases g : d.it.kind = 0 ∨ (one u d.it.at_).1 ≠ u.id
      · rw [if_pos g, h hm' ho g]
      · rw [if_neg g]
        rw [not_or, Classical.not_not] at g
        unfold doP
        rw [if_neg (by simp [hc, hm']), if_neg (by simpa using ho), if_neg g.1, if_pos g.2]
    · rw [if_pos ho]; unfold doP; rw [if_neg (by simp [hc, hm']), if_pos ho]

section
variable (G : Glob) (hG : GOk G)
include hG

theorem f14 (u : U) (hu : Good u) (d : Dd) (hs : d.it.Shorts) : Pure G Tryz.prog 14 [.agg u.cs, .agg d.cs] (resAV (doP u d)) := by
  by_cases hk : 0 ≤ d.it.kind ∧ d.it.kind ≤ 6
  case neg =>
    have hc : chg d.it.kind = false := by unfold chg; simp; omega
    have e : doP u d = (u, 1) := by unfold doP; rw [if_pos (.inl hc)]
    rw [e]
    exact apply_none G u hu d hk
  have hc : chg d.it.kind = true := by unfold chg; simp; omega
  obtain ⟨q1, _⟩ := (Itm.Shorts_eq d.it).1 hs
  have hid := one_mem (u := u) (p := d.it.at_)
  have hf1 : (one u d.it.at_).2 = 0 → (fnd (one u d.it.at_).1 u).id = (one u d.it.at_).1 := fun h => (fnd_id u hu.nd (hid h)).1
  have hw : (one u d.it.at_).2 = 0 → (fnd (one u d.it.at_).1 u).words.length ≤ 256 := fun h => (nodeOk_slim (hu.node _ (fndm_flat u hu.nd (hid h)))).words.1
  have hh : d.it.kind = 0 ∨ d.it.kind = 1 ∨ d.it.kind = 2 ∨ d.it.kind = 3 ∨ d.it.kind = 4 ∨ d.it.kind = 5 ∨ d.it.kind = 6 := by omega
  have go : ∀ fn q, mgets d.it.kind doTab = some (fnv fn) → (d.it.may = true → (one u d.it.at_).2 = 0 → (d.it.kind = 0 ∨ (one u d.it.at_).1 ≠ u.id) → doP u d = q) → (d.it.may = true → (one u d.it.at_).2 = 0 → (d.it.kind = 0 ∨ (one u d.it.at_).1 ≠ u.id) → Pure G Tryz.prog fn [.agg u.cs, .agg (fnd (one u d.it.at_).1 u).cs, .agg d.cs] (resAV q)) → Pure G Tryz.prog 14 [.agg u.cs, .agg d.cs] (resAV (doP u d)) := by
    intro fn q h1 h2 h3
    rw [doP_two u d hc q h2]
    exact apply_of G hG u hu d hs fn h1 q h3
  have hdo : d.it.may = true → (one u d.it.at_).2 = 0 → (d.it.kind = 0 ∨ (one u d.it.at_).1 ≠ u.id) → d.it.kind ≠ 0 → (one u d.it.at_).1 ≠ u.id := fun _ _ h h0 => h.resolve_left h0
  rcases hh with h | h | h | h | h | h | h
  · refine go 59 (insP u (one u d.it.at_).1 d) (by rw [h]; rfl) (fun hm ho _ => ?_) (fun hm ho _ => ?_)
    · unfold doP; rw [if_neg (by simp [hc, hm]), if_neg (by simpa using ho), if_pos h]
    · obtain ⟨w0, w3⟩ := may_where hm (.inl h)
      exact f59 G hG u hu _ d _ (Prod.ext rfl ho) h w0 w3 ⟨may_unit hm h, may_cnt hm h⟩ q1.at_ q1.to_
  · refine go 60 (without (one u d.it.at_).1 u, 0) (by rw [h]; rfl) (fun hm ho hx => ?_) (fun hm ho hx => ?_)
    · have h1 := hdo hm ho hx (by omega)
      unfold doP; rw [if_neg (by simp [hc, hm]), if_neg (by simpa using ho), if_neg (by omega), if_neg h1, if_pos h]
    · have h1 := hdo hm ho hx (by omega)
      have := f60 G u hu (fnd (one u d.it.at_).1 u) (by rw [hf1 ho]; exact hid ho) (by rw [hf1 ho]; exact fun e => h1 e.symm) d
      rw [hf1 ho] at this
      exact this
  · refine go 61 (if (editE (fnd (one u d.it.at_).1 u).words d.it d.act d.item).2 ≠ 0 then (u, (editE (fnd (one u d.it.at_).1 u).words d.it d.act d.item).2) else (U.wth (one u d.it.at_).1 (fun y => { y with words := (editE (fnd (one u d.it.at_).1 u).words d.it d.act d.item).1 }) u, 0)) (by rw [h]; rfl) (fun hm ho hx => ?_) (fun hm ho hx => ?_)
    rotate_left
    · obtain ⟨m1, m2, m3, m4, m5⟩ := may_edit hm (.inl h)
      have h1 := hdo hm ho hx (by omega)
      have := f61 G u hu (fnd (one u d.it.at_).1 u) (by rw [hf1 ho]; exact hid ho) d (hw ho) h (m4 h) m1 m2 m3
      rw [hf1 ho] at this
      exact this
    · have h1 := hdo hm ho hx (by omega)
      unfold doP; rw [if_neg (by simp [hc, hm]), if_neg (by simpa using ho), if_neg (by omega), if_neg h1, if_neg (by omega), if_pos (.inl h)]
  · refine go 62 (if (editE (fnd (one u d.it.at_).1 u).words d.it d.act d.item).2 ≠ 0 then (u, (editE (fnd (one u d.it.at_).1 u).words d.it d.act d.item).2) else (U.wth (one u d.it.at_).1 (fun y => { y with words := (editE (fnd (one u d.it.at_).1 u).words d.it d.act d.item).1 }) u, 0)) (by rw [h]; rfl) (fun hm ho hx => ?_) (fun hm ho hx => ?_)
    rotate_left
    · obtain ⟨m1, m2, m3, m4, m5⟩ := may_edit hm (.inr h)
      have h1 := hdo hm ho hx (by omega)
      have := f62 G u hu (fnd (one u d.it.at_).1 u) (by rw [hf1 ho]; exact hid ho) d (hw ho) h m1 m2 (m5 h).1 m3 (m5 h).2
      rw [hf1 ho] at this
      exact this
    · have h1 := hdo hm ho hx (by omega)
      unfold doP; rw [if_neg (by simp [hc, hm]), if_neg (by simpa using ho), if_neg (by omega), if_neg h1, if_neg (by omega), if_pos (.inr h)]
  · refine go 63 (U.wth (one u d.it.at_).1 (fun y => { y with head := markW d.act d.item d.it.new 0 }) u, 0) (by rw [h]; rfl) (fun hm ho hx => ?_) (fun hm ho hx => ?_)
    rotate_left
    · have := f63 G u hu (fnd (one u d.it.at_).1 u) (by rw [hf1 ho]; exact hid ho) d (may_newlen hm h)
      rw [hf1 ho] at this
      exact this
    · have h1 := hdo hm ho hx (by omega)
      unfold doP; rw [if_neg (by simp [hc, hm]), if_neg (by simpa using ho), if_neg (by omega), if_neg h1, if_neg (by omega), if_neg (by omega), if_pos h]
  · refine go 64 (if takes (parR (one u d.it.at_).1 u).1 (parR (one u d.it.at_).1 u).1.kids { fnd (one u d.it.at_).1 u with label := d.it.label } = 10 then (u, 10) else (U.wth (one u d.it.at_).1 (fun y => { y with label := d.it.label }) u, 0)) (by rw [h]; rfl) (fun hm ho hx => ?_) (fun hm ho hx => ?_)
    rotate_left
    · have h1 := hdo hm ho hx (by omega)
      have := f64 G hG u hu (fnd (one u d.it.at_).1 u) (by rw [hf1 ho]) (by rw [hf1 ho]; exact hid ho) (by rw [hf1 ho]; exact fun e => h1 e.symm) d
      rw [hf1 ho] at this
      exact this
    · have h1 := hdo hm ho hx (by omega)
      unfold doP; rw [if_neg (by simp [hc, hm]), if_neg (by simpa using ho), if_neg (by omega), if_neg h1, if_neg (by omega), if_neg (by omega), if_neg (by omega), if_pos h]
  · refine go 65 (if (one u d.it.to_).2 ≠ 0 then (u, (one u d.it.to_).2) else movP u (one u d.it.at_).1 (one u d.it.to_).1 d) (by rw [h]; rfl) (fun hm ho hx => ?_) (fun hm ho hx => ?_)
    rotate_left
    · have h1 := hdo hm ho hx (by omega)
      obtain ⟨w0, w3⟩ := may_where hm (.inr h)
      exact f65 G hG u hu d _ (Prod.ext rfl ho) (fun e => h1 e.symm) h w0 w3 q1.at_ q1.to_
    · have h1 := hdo hm ho hx (by omega)
      unfold doP; rw [if_neg (by simp [hc, hm]), if_neg (by simpa using ho), if_neg (by omega), if_neg h1, if_neg (by omega), if_neg (by omega), if_neg (by omega), if_neg (by omega)]
end
end Go.Av
end

section
namespace Go.Av
open Go Go.RowKit Go.Proofs
set_option linter.unusedSimpArgs false
set_option linter.unusedVariables false

theorem app_keptL {e : TypeId} {sz bytes m : Nat} {g : Option Nat} {rows ys : List (List AV)} {K : AV → Store → Prop} (pre κ : Store) (hp : ∀ p ∈ pre, p.1 ∉ Store.keys (κ ++ tokS g e m)) (hg : ∀ b, g = some b → b ∉ κ.keys) (hm : m = rows.length * sz) (hnd : κ.keys.Nodup) (hb : (rows.length + ys.length) * bytes ≤ 140737488355328)
    (hk : ∀ g', (∀ b, g' = some b → b ∉ κ.keys) → K (.own g' e sz (rows ++ ys)) (κ ++ tokS g' e ((rows ++ ys).length * sz))) : appX e sz bytes (pre ++ (κ ++ tokS g e m)) g rows ys K := by
  subst hm
  refine appX_one κ (fun b h => ?_) hb ⟨fun q hq => ?_, fun _ => hnd⟩ hk
  · have h1 := tokF (e := e) (m := rows.length * sz) hg b h
    have hkey : b ∈ Store.keys (κ ++ tokS g e (rows.length * sz)) := List.mem_map.2 ⟨_, Store.get_mem h1, rfl⟩
    rw [sget_app]
    · exact h1
    · intro hm
      obtain ⟨p, hp1, rfl⟩ := List.mem_map.1 hm
      exact hp p hp1 hkey
  · cases g with
    | none => exact List.mem_append.2 (.inr (List.mem_append.2 (.inl hq)))
    | some b =>
      refine List.mem_filter.2 ⟨List.mem_append.2 (.inr (List.mem_append.2 (.inl hq))), ?_⟩
      have : q.1 ≠ b := fun h => hg b rfl (by rw [← h]; exact List.mem_map.2 ⟨q, hq, rfl⟩)
      simpa using this
def allAV (q : U × List Ms) : AV := .tup [.agg q.1.cs, .lst 3 (q.2.map Ms.cs)]
theorem chg_inR (k : Int) : inR k 0 6 = chg k := rfl

section
variable (G : Glob) (hG : GOk G)
include hG
set_option maxHeartbeats 4000000 in
theorem f17 (u : U) (hu : Good u) (l : List Dd) (hl : l.length < 1000000) (hs : ∀ d ∈ l, d.it.Shorts) : Pure G Tryz.prog 17 [.agg u.cs, .lst 28 (l.map Dd.cs)] (allAV (allP u l)) := by
  refine Pure.w c17 fun R hR => ?_
  unfold s17 r17
  unfold allAV at hR
  (repeat' (first | simp -dsimp -implicitDefEqProofs only [EVz, seval, ↓reduceIte, reduceCtorEq, EV6, EV7] | (with_reducible intro blk hblk; (try (have hnx := hblk; simp only [EVK] at hnx; first | (have hne := And.intro hnx hne) | (have hne := hnx)))) | fail))
  rename_i b2 _ _ _
  generalize hbe : blk = b4 at *
  have q1 : ¬ b4 = b2 := by simpa [Store.keys] using hblk
  have q1' : ¬ b2 = b4 := fun e => q1 e.symm
  refine W_list (ι := U × List Ms × Option Nat) l (fun i r c => Good c.1 ∧ allP u l = ((allP c.1 r).1, c.2.1 ++ (allP c.1 r).2) ∧ c.2.1.length ≤ i ∧ (∀ d, c.2.2 = some d → d ∉ Store.keys [(b4, AObj.cells 27 zU), (b2, .cells 27 zU)])) (fun i c => [(2, .sc (.pointer (some ⟨b2, 0, none⟩))), (4, .sc (.pointer (some ⟨b4, 0, none⟩))), (6, .own c.2.2 91 3 (c.2.1.map Ms.cs)), (11, .lst 28 (l.map Dd.cs)), (12, .int .i64 l.length), (13, .int .i64 i)]) (fun i c => [(b4, .cells 27 zU), (b2, .cells 27 c.1.cs)] ++ tokS c.2.2 91 (c.2.1.length * 3)) (u, [], none) ⟨hu, by simp, by simp, by simp⟩ (Weak.of (by simp [EnvLe, Env.get, AVle, AVle1]) (SubN.refl _)) (by omega) (fun i x r c hok hx hw => ?_) (fun c hok hn => ?_)
  · obtain ⟨o1, o2, o3, o4⟩ := hok
    have hI := f41 G x.it.kind
    rw [chg_inR] at hI
    have hA := f14 G hG c.1 o1 x (hs x hx.mem)
    have hst := step_good o1 x
    have hil := hx.lt
    rw [allP_cons] at o2
    unfold resAV at hA
    unfold stepP at o2 hst
    cases hc : chg x.it.kind with
    | false =>
      rw [hc] at hI
      rw [hc, if_pos rfl] at o2 hst
      (repeat' (first | (with_reducible refine CALL_pure (hI) ?_) | simp -dsimp -implicitDefEqProofs only [EVz, seval, ↓reduceIte, reduceCtorEq, EV6, EV7, hx.yes, hx.le0, hx.lt', hx.get, hx.row, hw, Dd.cs, Itm.cs_eq, hne] | (with_reducible intro blk hblk; (try (have hnx := hblk; simp only [EVK] at hnx; (have hne := And.intro hnx hne)))) | fail))
      exact LK_next hx c ⟨o1, by simpa using o2, by omega, o4⟩ (Weak.sub (SubN.tail (SubN.refl _) _))
    | true =>
      rw [hc] at hI
      rw [hc, if_neg (by simp)] at o2 hst
      obtain ⟨⟨v, e⟩, hve⟩ : ∃ z, doP c.1 x = z := ⟨_, rfl⟩
      rw [hve] at hA o2 hst
      unfold missOf at o2 hst
      simp only [Dd.cs, Itm.cs_eq] at hA
      rcases Classical.em (e = 0) with he | he
      · subst he
        (repeat' (first | (with_reducible refine CALL_pure (hI) ?_) | (with_reducible refine CALL_pure (hA) ?_) | simp -dsimp -implicitDefEqProofs only [EVz, seval, ↓reduceIte, reduceCtorEq, EV6, EV7, hx.yes, hx.le0, hx.lt', hx.get, hx.row, hw, Dd.cs, Itm.cs_eq, hne] | (with_reducible intro blk hblk; (try (have hnx := hblk; simp only [EVK] at hnx; (have hne := And.intro hnx hne)))) | fail))
        exact LK_next hx (v, c.2.1, c.2.2) ⟨hst.1, by simpa using o2, Nat.le_succ_of_le o3, o4⟩ (Weak.sub (SubN.tail (SubN.tail (SubN.refl _) _) _))
      · (repeat' (first | (with_reducible (refine split_case (fun h => ?_) (fun h => ?_)) <;> (try simp only [Da, Db, Dc, Dw, De, Df, Dg, Dh] at h)) | (with_reducible refine CALL_pure (hI) ?_) | (with_reducible refine CALL_pure (hA) ?_) | simp -dsimp -implicitDefEqProofs only [EVz, seval, ↓reduceIte, reduceCtorEq, EV6, EV7, hx.yes, hx.le0, hx.lt', hx.get, hx.row, hw, Dd.cs, Itm.cs_eq, he, hne] | (with_reducible intro blk hblk; (try (have hnx := hblk; simp only [EVK] at hnx; (have hne := And.intro hnx hne)))) | (exfalso; omega) | fail))
        clear hA hI
        rename_i b8 _ _ _ b9 _ _ _
        obtain ⟨n1, n2, n3, n4⟩ := hne
        have hm3 : ∀ d, c.2.2 = some d → d ∈ (tokS c.2.2 91 (c.2.1.length * 3)).keys := by
          intro d hd
          rw [hd]
          simp [tokS, Store.keys]
        refine ⟨[Ms.cs ⟨x.act, x.item, e⟩], rfl, by simp [Ms.cs], by simp [Ms.cs], ?_⟩
        refine app_keptL (sz := 3) (bytes := 24) (rows := c.2.1.map Ms.cs) (ys := [Ms.cs ⟨x.act, x.item, e⟩]) (m := c.2.1.length * 3) [(blk, _)] [(b9, _), (b8, _), (b4, _), (b2, _)] ?_ ?_ (by rw [List.length_map]) ?_ (by rw [List.length_map]; simp; omega) (fun gn hgn => ?_)
        · intro p hp
          simp only [List.mem_singleton] at hp
          subst hp
          simp [Store.keys, n1]
          simpa [Store.keys] using n1.2.2.2.2
        · intro d hd
          have h1 := hm3 d hd
          have h2 := o4 d hd
          simp [Store.keys] at h2 ⊢
          refine ⟨fun q => n2.2.2.2 (q ▸ h1), fun q => n3.2.2 (q ▸ h1), h2.1, h2.2⟩
        · simp [Store.keys, n2, n3, q1]
        (repeat' (simp -dsimp -implicitDefEqProofs only [EVz, seval, ↓reduceIte, reduceCtorEq, EV6, EV7, n1, n2, n3, q1, q1', hw, hne]))
        refine LK_next hx (v, c.2.1 ++ [⟨x.act, x.item, e⟩], gn) ⟨hst.1, by simpa [he] using o2, ?_, ?_⟩ ?_
        · rw [List.length_append]; exact Nat.succ_le_succ o3
        · intro d hd
          have := hgn d hd
          simp [Store.keys] at this ⊢
          exact ⟨this.2.2.1, this.2.2.2⟩
        · simp only [List.map_append, List.map_cons, List.map_nil, List.length_append, List.length_map, List.length_cons, List.length_nil]
          exact Weak.sub (SubN.tail (SubN.tail (SubN.refl _) _) _)
  · (repeat' (simp -dsimp -implicitDefEqProofs only [EVz, seval, ↓reduceIte, reduceCtorEq, EV6, EV7, hn, hne]))
    obtain ⟨o1, o2, o3, o4⟩ := hok
    simp only [allP, List.append_nil] at o2
    rw [o2] at hR
    exact hR _ _ (.inr ⟨AVle1.rfl' _, .inr ⟨rfl, rfl⟩, trivial⟩)
end
end Go.Av
end
