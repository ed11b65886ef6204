/-
  LINT, 31: the program's rules for the kinds.
-/
import Derived.Test.YtcecmifknojgeaaGreatDoorXM1toXAv28
import Derived.Test.YtcecmifknojgeaaGreatDoorXE6toXE9
section
namespace Go.Av
open Go Go.RowKit Go.Proofs
set_option linter.unusedSimpArgs false
set_option linter.unusedVariables false

section
variable (G : Glob) (hG : GOk G)
include hG

theorem f110 (u : U) (hs : u.Short) : Pure G Tryz.prog 110 [.agg u.cs] (.bool (bareOk u && (decide (u.kind ≠ 0) && decide ((textOf u).2 = 0)))) := by
  have hF := f178 G hG u hs
  have hB := f179 G hG u hs
  rw [← bareOk_two] at hB
  refine Pure.w c110 fun R hR => ?_
  unfold s110 r110
  (repeat' (first | (with_reducible (refine gd_case (fun h => ?_) (fun h => ?_)) <;> (try simp only [Da, Db, Dc, Dw, De, Df, Dg, Dh] at h)) | (with_reducible refine CALL_pure (hF) ?_) | (with_reducible refine CALL_pure (hB) ?_) | simp -dsimp -implicitDefEqProofs only [EVz, seval, ↓reduceIte, reduceCtorEq, EV6, EV7] | fail))
  (all_goals (first | (refine RET.eq hR ?_; (refine congrArg AV.bool (Bool.eq_iff_iff.2 ?_); simp only [EVB] at *; omega)) | (refine RET.eq hR ?_; ((simp_all []; done)))))
theorem f108 (x : Itm) (hs : x.unit.Short) : Pure G Tryz.prog 108 [.agg x.cs] (.bool (inR x.wh 0 3 && (bareOk x.unit && (decide (x.unit.kind ≠ 0) && decide ((textOf x.unit).2 = 0))))) := by
  have hU := f110 G hG x.unit hs
  refine Pure.w c108 fun R hR => ?_
  unfold s108 r108
  generalize (bareOk x.unit && (decide (x.unit.kind ≠ 0) && decide ((textOf x.unit).2 = 0))) = q at *
  (repeat' (first | (with_reducible (refine gd_case (fun h => ?_) (fun h => ?_)) <;> (try simp only [Da, Db, Dc, Dw, De, Df, Dg, Dh] at h)) | (with_reducible refine CALL_pure (f109 G _) ?_) | (with_reducible refine CALL_pure (hU) ?_) | simp -dsimp -implicitDefEqProofs only [EVz, seval, ↓reduceIte, reduceCtorEq, EV6, EV7, U.cs_fold] | fail))
  (all_goals (((refine RET.eq hR ?_; ((simp_all []; done))))))
end
section
variable (G : Glob)
theorem f114 (x : Itm) (q : x.Short1) : Pure G Tryz.prog 114 [.agg x.cs] (.bool (okRow x.old 1 && (okRow x.new 0 && inR x.nth 0 256))) := by
  have ho := fun n => f115 G x.old n (by have := q.old; omega)
  have hn := fun n => f115 G x.new n (by have := q.new; omega)
  refine Pure.w c114 fun R hR => ?_
  unfold s114 r114
  unfold okRow at *
  (repeat' (first | (with_reducible (refine gd_case (fun h => ?_) (fun h => ?_)) <;> (try simp only [Da, Db, Dc, Dw, De, Df, Dg, Dh] at h)) | (with_reducible refine CALL_pure (ho _) ?_) | (with_reducible refine CALL_pure (hn _) ?_) | (with_reducible refine CALL_pure (f116 G x) ?_) | simp -dsimp -implicitDefEqProofs only [EVz, seval, ↓reduceIte, reduceCtorEq, EV6, EV7] | fail))
  (all_goals (((refine RET.eq hR ?_; first | (simp_all []; done) | grind))))
theorem f118 (x : Itm) (q : x.Short1) : Pure G Tryz.prog 118 [.agg x.cs] (.bool (okRow x.old 0 && (okRow x.new 1 && (inR x.nth 0 256 && (decide (0 < (x.old.length : Int)) || decide (x.nth = 0)))))) := by
  have ho := f115 G x.old 0 (by have := q.old; omega)
  have hn := f115 G x.new 1 (by have := q.new; omega)
  refine Pure.w c118 fun R hR => ?_
  unfold s118 r118
  unfold okRow at *
  generalize (seqOk x.old && decide ((0 : Int) ≤ (x.old.length : Int))) = q1 at *
  generalize (seqOk x.new && decide ((1 : Int) ≤ (x.new.length : Int))) = q2 at *
  have hth := f116 G x
  generalize inR x.nth 0 256 = q3 at *
  (repeat' (first | (with_reducible (refine gd_case (fun h => ?_) (fun h => ?_)) <;> (try simp only [Da, Db, Dc, Dw, De, Df, Dg, Dh] at h)) | (with_reducible refine CALL_pure (ho) ?_) | (with_reducible refine CALL_pure (hn) ?_) | (with_reducible refine CALL_pure (hth) ?_) | simp -dsimp -implicitDefEqProofs only [EVz, seval, ↓reduceIte, reduceCtorEq, EV6, EV7] | fail))
  (all_goals (((refine RET.eq hR ?_; ((simp_all []; done))))))
theorem f120 (x : Itm) (q : x.Short1) : Pure G Tryz.prog 120 [.agg x.cs] (.bool (okRow x.new 0)) := by
  have hn := fun n => f115 G x.new n (by have := q.new; omega)
  refine Pure.w c120 fun R hR => ?_
  unfold s120 r120
  unfold okRow at *
  (repeat' (first | (with_reducible refine CALL_pure (hn _) ?_) | simp -dsimp -implicitDefEqProofs only [EVz, seval, ↓reduceIte, reduceCtorEq, EV6, EV7] | fail))
  (all_goals ((exact RET.eq hR rfl)))
theorem f122 (x : Itm) : Pure G Tryz.prog 122 [.agg x.cs] (.bool (labelOk x.label)) := by
  refine Pure.w c122 fun R hR => ?_
  unfold s122 r122
  (repeat' (first | (with_reducible refine CALL_pure (f84 G _) ?_) | simp -dsimp -implicitDefEqProofs only [EVz, seval, ↓reduceIte, reduceCtorEq, EV6, EV7] | fail))
  (all_goals ((exact RET.eq hR rfl)))
theorem f124 (x : Itm) (q : x.Short1) : Pure G Tryz.prog 124 [.agg x.cs] (.bool (inR x.wh 0 3 && addrOk x.to_)) := by
  have ha := f67 G x.to_ q.to_
  refine Pure.w c124 fun R hR => ?_
  unfold s124 r124
  (repeat' (first | (with_reducible (refine gd_case (fun h => ?_) (fun h => ?_)) <;> (try simp only [Da, Db, Dc, Dw, De, Df, Dg, Dh] at h)) | (with_reducible refine CALL_pure (f109 G _) ?_) | (with_reducible refine CALL_pure (ha) ?_) | simp -dsimp -implicitDefEqProofs only [EVz, seval, ↓reduceIte, reduceCtorEq, EV6, EV7] | fail))
  (all_goals (((refine RET.eq hR ?_; ((simp_all []; done))))))
theorem f126 (x : Itm) (q : x.Short1) : Pure G Tryz.prog 126 [.agg x.cs] (.bool (nameOk x.event && inR x.day 0 1048576)) := by
  have ha := f68 G x.event q.event
  refine Pure.w c126 fun R hR => ?_
  unfold s126 r126
  (repeat' (first | (with_reducible (refine gd_case (fun h => ?_) (fun h => ?_)) <;> (try simp only [Da, Db, Dc, Dw, De, Df, Dg, Dh] at h)) | (with_reducible refine CALL_pure (f127 G _ _ _) ?_) | (with_reducible refine CALL_pure (ha) ?_) | simp -dsimp -implicitDefEqProofs only [EVz, seval, ↓reduceIte, reduceCtorEq, EV6, EV7] | fail))
  (all_goals (((refine RET.eq hR ?_; ((simp_all []; done))))))
theorem f129 (x : Itm) (q : x.Short1) (hy : ∀ y ∈ x.by_, Pure G Tryz.prog 38 [.agg y.cs] (.bool y.may)) :
    Pure G Tryz.prog 129 [.agg x.cs] (.bool (inR x.act 1 1048576 && (inR x.item 0 31 && Itm.mayOne x.by_))) := by
  refine Pure.w c129 fun R hR => ?_
  unfold s129 r129
  have hA := f130 G x 0
  generalize inR x.act 1 1048576 = q1 at *
  generalize inR x.item 0 31 = q2 at *
  rcases hb : x.by_ with _ | ⟨y, _ | ⟨z, l⟩⟩
  · rw [hb, Itm.mayOne] at hR
    (repeat' (first | (with_reducible (refine gd_case (fun h => ?_) (fun h => ?_)) <;> (try simp only [Da, Db, Dc, Dw, De, Df, Dg, Dh] at h)) | (with_reducible refine CALL_pure (hA) ?_) | simp -dsimp -implicitDefEqProofs only [EVz, seval, ↓reduceIte, reduceCtorEq, EV6, EV7, hb, List.map_nil, List.length_nil] | fail))
    (all_goals (((refine RET.eq hR ?_; ((simp_all []; done))))))
  · rw [hb, Itm.mayOne_cons] at hR
    have hyy := hy y (by rw [hb]; simp)
    (repeat' (first | (with_reducible (refine gd_case (fun h => ?_) (fun h => ?_)) <;> (try simp only [Da, Db, Dc, Dw, De, Df, Dg, Dh] at h)) | (with_reducible refine CALL_pure (hA) ?_) | (with_reducible refine CALL_pure (f41 G _) ?_) | (with_reducible refine CALL_pure (hyy) ?_) | simp -dsimp -implicitDefEqProofs only [EVz, seval, ↓reduceIte, reduceCtorEq, EV6, EV7, hb, List.map_cons, List.map_nil, List.length_nil, List.length_cons, List.getD_cons_zero] | fail))
    (all_goals (((refine RET.eq hR ?_; ((simp_all []; done))))))
  · rw [hb, Itm.mayOne_cons] at hR
    have h1 : decide (((x.by_.length : Nat) : Int) = 1) = false := by rw [hb]; simp; omega
    (repeat' (first | (with_reducible (refine gd_case (fun h => ?_) (fun h => ?_)) <;> (try simp only [Da, Db, Dc, Dw, De, Df, Dg, Dh] at h)) | (with_reducible refine CALL_pure (hA) ?_) | simp -dsimp -implicitDefEqProofs only [EVz, seval, ↓reduceIte, reduceCtorEq, EV6, EV7, h1] | fail))
    (all_goals (((refine RET.eq hR ?_; ((simp_all []; done))))))
end
end Go.Av
end

section
namespace Go.Av
open Go Go.RowKit Go.Proofs
set_option linter.unusedSimpArgs false
set_option linter.unusedVariables false

def fnv (k : Nat) : AV := .sc (.func (.func k) #[] #[])
def intK (n : Int) : Value := .int .i64 n
def ruleTab : List (Int × AV) := [(0, .agg [fnv 107, fnv 108]), (1, .agg [fnv 111, fnv 112]), (2, .agg [fnv 113, fnv 114]), (3, .agg [fnv 117, fnv 118]),
  (4, .agg [fnv 119, fnv 120]), (5, .agg [fnv 121, fnv 122]), (6, .agg [fnv 123, fnv 124]), (7, .agg [fnv 301, fnv 302]), (8, .agg [fnv 301, fnv 302]),
  (9, .agg [fnv 301, fnv 302]), (10, .agg [fnv 125, fnv 126]), (11, .agg [fnv 128, fnv 129])]
theorem sget_hd {b : Nat} {x : AObj} {σ : Store} : Store.get ((b, x) :: σ) b = some x := by simp [Store.get]
theorem mapK_i : MapK Tryz.prog 3 intK := mapK_int (by kernel_rfl)
theorem rep_ci {G : Glob} {env : Env} (n : Int) : ∀ τ w v, Rep τ w ((SOpd.of (.const (.int .i64 n))).eval G env) v → v = intK n := by
  intro τ w v h
  have h2 : v = .int .i64 n := by simpa only [SOpd.of, SOpd.eval, AV.ofValue, AV.ofOne, Rep] using h
  exact h2

section
variable (G : Glob) (hG : GOk G)
include hG

theorem f66 : FnSpec G Tryz.prog 66 [] [] (fun r σ => ∃ b, r = .sc (.map (some b)) ∧ σ = [(b, .map (mrows intK ruleTab))]) := by
  have hg := eval_g hG.order
  refine FnSpec.w c66 ?_
  unfold s66 r66
  (try simp -dsimp -implicitDefEqProofs only [EVz, seval, ↓reduceIte, reduceCtorEq, EV6, EV7])
  refine RAW_makeMap ?_
  intro b hb
  (try simp -dsimp -implicitDefEqProofs only [EVz, seval, ↓reduceIte, reduceCtorEq, EV6, EV7])
  refine RAW_insert mapK_i (l := []) (k := 0) (eT := 107) rfl (rep_ci 0) rfl (by kernel_rfl) sget_hd ?_
  (repeat' (first | simp -dsimp -implicitDefEqProofs only [EVz, seval, ↓reduceIte, reduceCtorEq, EV6, EV7, hg] | (refine RAW_insert mapK_i (eT := 107) rfl (rep_ci _) rfl (by kernel_rfl) sget_hd ?_) | fail))
  exact RET.mk (SubN.refl _) ⟨b, rfl, rfl⟩
end
end Go.Av
end

section
namespace Go.Av
open Go Go.RowKit Go.Proofs
set_option linter.unusedSimpArgs false
set_option linter.unusedVariables false

section
variable (G : Glob)
theorem f135 (f : Value) (a b : List Itm) (ha : a.length < 9000000000000000000) (hf : ∀ x ∈ a, ∀ y, VPure G Tryz.prog f [.agg x.cs, .agg y.cs] (.bool (decide (x = y)))) :
    Pure G Tryz.prog 135 [.lst 25 (a.map Itm.cs), .lst 25 (b.map Itm.cs), .sc f] (.bool (decide (a = b))) := by
  refine Pure.w c135 fun R hR => ?_
  unfold s135 r135
  by_cases hl : a.length = b.length
  · have e0 : decide ((a.length : Int) ≠ (b.length : Int)) = false := by simp [hl]
    (repeat' (first | (with_reducible (refine split_case (fun h => ?_) (fun h => ?_)) <;> (try simp only [Da, Db, Dc, Dw, De, Df, Dg, Dh] at h)) | (with_reducible refine And.intro (by omega) ?_) | simp -dsimp -implicitDefEqProofs only [EVz, seval, ↓reduceIte, reduceCtorEq, EV6, EV7, e0, hx.yes, hx.le0, hx.lt', hx.get, hx.row, hw, hy.row, hy.lt', hne] | simp -dsimp -implicitDefEqProofs only [EVz, seval, ↓reduceIte, reduceCtorEq, EV6, EV7, e0, hx.yes, hx.le0, hx.lt', hx.get, hx.row, hw, hy.row, hy.lt'] | simp -dsimp -implicitDefEqProofs only [EVz, seval, ↓reduceIte, reduceCtorEq, EV6, EV7, e0, hn] | simp -dsimp -implicitDefEqProofs only [EVz, seval, ↓reduceIte, reduceCtorEq, EV6, EV7, e0] | (with_reducible intro blk hblk; (try (have hnx := hblk; simp only [EVK] at hnx; first | (have hne := And.intro hnx hne) | (have hne := hnx)))) | (refine LK_next hx () ?_ (Weak.sub (SubN.nil _))) | (refine CALL_vpure (hf _ hx.mem y) ?_) | (refine W_list (a) (fun i r (c : Unit) => a.length = b.length ∧ decide (a = b) = decide (r = b.drop i)) (fun i c => [(1, .lst 25 (b.map Itm.cs)), (2, .sc f), (15, .lst 25 (a.map Itm.cs)), (16, .int .i64 a.length), (17, .int .i64 i)]) (fun _ _ => []) () (by ((simp [*]; done))) (Weak.rfl' _ _) (by omega) (fun i x r c hok hx hw => ?_) (fun c hok hn => ?_) <;> (try (obtain ⟨y, r2, hy, hyn, hok⟩ := pair_more hok hx)) ) | fail))
    (all_goals (first | (refine RET.eq hR ?_; ((simp_all [hl]; done))) | (simp_all [hl]; done)))
  · have e0 : decide ((a.length : Int) ≠ (b.length : Int)) = true := by simp; omega
    rw [dec_len hl] at hR
    (repeat' (simp -dsimp -implicitDefEqProofs only [EVz, seval, ↓reduceIte, reduceCtorEq, EV6, EV7, e0]))
    (all_goals ((exact RET.eq hR rfl)))

set_option maxHeartbeats 4000000 in
theorem f70 : ∀ (a : Itm), a.fit → ∀ b : Itm, Pure G Tryz.prog 70 [.agg a.cs, .agg b.cs] (.bool (decide (a = b))) := by
  refine Itm.ind fun a ih hfit b => ?_
  obtain ⟨h1, h2, h3, h4, h5, h6, h7⟩ := (Itm.fit_eq a).1 hfit
  refine Pure.w c70 fun R hR => ?_
  unfold s70 r70
  (repeat' (first | (with_reducible (refine gd_case (fun h => ?_) (fun h => ?_)) <;> (try simp only [Da, Db, Dc, Dw, De, Df, Dg, Dh] at h)) | (with_reducible refine CALL_pure (f133 G _ _ (by omega)) ?_) | (with_reducible refine CALL_pure (f134 G _ _ (by omega)) ?_) | (with_reducible refine CALL_pure (f29 G a.unit h3 b.unit) ?_) | (with_reducible refine CALL_pure (f135 G _ _ _ (by omega) (fun x hx y => (ih x hx (h7 x hx) y).v)) ?_) | simp -dsimp -implicitDefEqProofs only [EVz, seval, ↓reduceIte, reduceCtorEq, EV6, EV7, U.cs_fold] | fail))
  all_goals first
    | (refine RET.eq hR (congrArg AV.bool (Eq.symm (decide_eq_false ?_))); rintro rfl; first | exact absurd rfl h | exact absurd rfl ‹¬ _ = _› | exact sta_ne (by assumption) rfl)
    | (refine RET.eq hR (congrArg AV.bool (decide_eq_decide.2 ⟨fun e => ?_, fun e => by rw [e]⟩))
       exact Itm.ext' (by assumption) (by assumption) (by assumption) (by assumption) (by assumption) (by assumption) (by assumption) (by assumption) (by assumption) (by assumption) (sta_eq (by assumption)) (by assumption) (by assumption) (by assumption) (by assumption) e)
    | trace_state
end
end Go.Av
end

section
namespace Go.Av
open Go Go.RowKit Go.Proofs
set_option linter.unusedSimpArgs false
set_option linter.unusedVariables false

theorem rep_v_33 (n : Int) : ∀ τ w v, Rep τ w (.int .i64 n) v → v = intK n := by
  intro τ w v h
  simp only [Rep] at h
  exact h
theorem rep_zr_33 : ∀ τ w, Rep τ w (.agg [.sc .nilFunc, .sc .nilFunc]) (.agg #[.nilFunc, .nilFunc]) := by
  intro τ w
  simp only [Rep, RepL]
  refine ⟨_, rfl, by simp [Value.oneCell'], _, _, rfl, rfl, _, _, rfl, rfl, rfl⟩
theorem told_le_33 {x : Itm} {cs : List AV} (h : AVleL cs x.told.cs) : AVleA [.agg x.cs, .agg cs] [.agg x.cs, .agg x.told.cs] := ⟨AVle.rfl' _, .inr h, trivial⟩

section
variable (G : Glob) (hG : GOk G)
include hG

set_option maxHeartbeats 4000000 in
theorem valid_0 (x : Itm) (q : x.Short1) (hk : x.kind = 0) : Pure G Tryz.prog 38 [.agg x.cs] (.bool x.may) := by
  have hRu := f66 G hG
  have hH := f107 G x
  have eH := Itm.cs_eq { iz with wh := x.wh, unit := x.unit }
  simp only [iz, List.map_nil] at eH
  simp only [iz] at hH
  rw [eH] at hH
  have hM := f108 G hG x q.unit
  have hE := f70 G x q.fit x.told
  have hm1 : mgets (0 : Int) ruleTab = some (.agg [fnv 107, fnv 108]) := by simp [mgets, ruleTab]
  have hi := f41 G (0 : Int)
  rw [show inR (0 : Int) 0 6 = true from by decide] at hi
  refine Pure.w c38 fun R hR => ?_
  unfold s38 r38
  rw [Itm.may_eq] at hR
  unfold Itm.pre at hR
  generalize decide (x = x.told) = e at *
  have hkk : inR x.kind 0 11 = true := by rw [hk]; decide
  have hoo : x.own (Itm.mayOne x.by_) = (inR x.wh 0 3 && (bareOk x.unit && (decide (x.unit.kind ≠ 0) && decide ((textOf x.unit).2 = 0)))) := by unfold Itm.own; simp [hk]
  rw [hoo, hkk] at hR
  (repeat' (first | (with_reducible (first | refine split_case (fun h => ?_) (fun h => ?_) | refine gd_case (fun h => ?_) (fun h => ?_)) <;> (try simp only [Da, Db, Dc, Dw, De, Df, Dg, Dh] at h)) | (with_reducible refine CALL_pure (f67 G _ q.at_) ?_) | (with_reducible refine CALL_pure (f68 G _ q.for_) ?_) | (with_reducible refine CALL_pure (f69 G _ q.start) ?_) | (with_reducible refine CALL_pure (hH) ?_) | (with_reducible refine CALL_pure (hM) ?_) | (with_reducible refine CALL_pure (hi) ?_) | simp -dsimp -implicitDefEqProofs only [EVz, seval, ↓reduceIte, reduceCtorEq, EV6, EV7, hk, hm1, Option.getD_some, Option.isSome_some, fnv, U.cs_fold, hne] | simp -dsimp -implicitDefEqProofs only [EVz, seval, ↓reduceIte, reduceCtorEq, EV6, EV7, hk, hm1, Option.getD_some, Option.isSome_some, fnv, U.cs_fold] | (with_reducible intro blk hblk; (try (have hnx := hblk; simp only [EVK] at hnx; first | (have hne := And.intro hnx hne) | (have hne := hnx)))) | (with_reducible refine both_case ?_ ?_) | (with_reducible refine same_case ?_) | (refine CALL_specN [] _ hRu.v (AVleA.rfl' _) (SubN.refl _) (fun r σ' hh hnd => ?_);obtain ⟨bm, rfl, rfl⟩ := hh;(have hne := hnd);(try simp [Store.keys] at hne)) | (refine RAW_lookup mapK_i (l := ruleTab) (k := 0) (z := .agg #[.nilFunc, .nilFunc]) (zv := .agg [.sc .nilFunc, .sc .nilFunc]) (eT := 107) rfl (rep_v_33 _) (by kernel_rfl) (by first | exact sget_hd | (simp [Store.get, *]; done)) (by kernel_rfl) rep_zr_33 ?_) | (refine CALL_pure_le hE (told_le_33 (by rw [Itm.cs_eq]; simp [AVleL, AVle1, Itm.told, Itm.just, iz, hk])) ?_) | fail))
  all_goals (refine RET.eq hR (congrArg AV.bool ?_); clear hR hH eH hM hE hRu hi hm1 hoo hkk q)
  all_goals (try (first
    | exact absurd h (by decide)
    | (simp [*]; done)
    | (simp [*, Bool.and_assoc]; done)
    | (simp_all; done)))

set_option maxHeartbeats 4000000 in
theorem valid_1 (x : Itm) (q : x.Short1) (hk : x.kind = 1) : Pure G Tryz.prog 38 [.agg x.cs] (.bool x.may) := by
  have hRu := f66 G hG
  have hH := f111 G x
  have eH := Itm.cs_eq iz
  simp only [iz, List.map_nil] at eH
  simp only [iz] at hH
  rw [eH] at hH
  have hM := f112 G x
  have hE := f70 G x q.fit x.told
  have hm1 : mgets (1 : Int) ruleTab = some (.agg [fnv 111, fnv 112]) := by simp [mgets, ruleTab]
  have hi := f41 G (1 : Int)
  rw [show inR (1 : Int) 0 6 = true from by decide] at hi
  refine Pure.w c38 fun R hR => ?_
  unfold s38 r38
  rw [Itm.may_eq] at hR
  unfold Itm.pre at hR
  generalize decide (x = x.told) = e at *
  have hkk : inR x.kind 0 11 = true := by rw [hk]; decide
  have hoo : x.own (Itm.mayOne x.by_) = true := by unfold Itm.own; simp [hk]
  rw [hoo, hkk] at hR
  (repeat' (first | (with_reducible (first | refine split_case (fun h => ?_) (fun h => ?_) | refine gd_case (fun h => ?_) (fun h => ?_)) <;> (try simp only [Da, Db, Dc, Dw, De, Df, Dg, Dh] at h)) | (with_reducible refine CALL_pure (f67 G _ q.at_) ?_) | (with_reducible refine CALL_pure (f68 G _ q.for_) ?_) | (with_reducible refine CALL_pure (f69 G _ q.start) ?_) | (with_reducible refine CALL_pure (hH) ?_) | (with_reducible refine CALL_pure (hM) ?_) | (with_reducible refine CALL_pure (hi) ?_) | simp -dsimp -implicitDefEqProofs only [EVz, seval, ↓reduceIte, reduceCtorEq, EV6, EV7, hk, hm1, Option.getD_some, Option.isSome_some, fnv, U.cs_fold, hne] | simp -dsimp -implicitDefEqProofs only [EVz, seval, ↓reduceIte, reduceCtorEq, EV6, EV7, hk, hm1, Option.getD_some, Option.isSome_some, fnv, U.cs_fold] | (with_reducible intro blk hblk; (try (have hnx := hblk; simp only [EVK] at hnx; first | (have hne := And.intro hnx hne) | (have hne := hnx)))) | (with_reducible refine both_case ?_ ?_) | (with_reducible refine same_case ?_) | (refine CALL_specN [] _ hRu.v (AVleA.rfl' _) (SubN.refl _) (fun r σ' hh hnd => ?_);obtain ⟨bm, rfl, rfl⟩ := hh;(have hne := hnd);(try simp [Store.keys] at hne)) | (refine RAW_lookup mapK_i (l := ruleTab) (k := 1) (z := .agg #[.nilFunc, .nilFunc]) (zv := .agg [.sc .nilFunc, .sc .nilFunc]) (eT := 107) rfl (rep_v_33 _) (by kernel_rfl) (by first | exact sget_hd | (simp [Store.get, *]; done)) (by kernel_rfl) rep_zr_33 ?_) | (refine CALL_pure_le hE (told_le_33 (by rw [Itm.cs_eq]; simp [AVleL, AVle1, Itm.told, Itm.just, iz, hk])) ?_) | fail))
  all_goals (refine RET.eq hR (congrArg AV.bool ?_); clear hR hH eH hM hE hRu hi hm1 hoo hkk q)
  all_goals (try (first
    | exact absurd h (by decide)
    | (simp [*]; done)
    | (simp [*, Bool.and_assoc]; done)
    | (simp_all; done)))

set_option maxHeartbeats 4000000 in
theorem valid_2 (x : Itm) (q : x.Short1) (hk : x.kind = 2) : Pure G Tryz.prog 38 [.agg x.cs] (.bool x.may) := by
  have hRu := f66 G hG
  have hH := f113 G x
  have eH := Itm.cs_eq { iz with old := x.old, new := x.new, nth := x.nth }
  simp only [iz, List.map_nil] at eH
  simp only [iz] at hH
  rw [eH] at hH
  have hM := f114 G x q
  have hE := f70 G x q.fit x.told
  have hm1 : mgets (2 : Int) ruleTab = some (.agg [fnv 113, fnv 114]) := by simp [mgets, ruleTab]
  have hi := f41 G (2 : Int)
  rw [show inR (2 : Int) 0 6 = true from by decide] at hi
  refine Pure.w c38 fun R hR => ?_
  unfold s38 r38
  rw [Itm.may_eq] at hR
  unfold Itm.pre at hR
  generalize decide (x = x.told) = e at *
  have hkk : inR x.kind 0 11 = true := by rw [hk]; decide
  have hoo : x.own (Itm.mayOne x.by_) = (okRow x.old 1 && (okRow x.new 0 && inR x.nth 0 256)) := by unfold Itm.own; simp [hk]
  rw [hoo, hkk] at hR
  (repeat' (first | (with_reducible (first | refine split_case (fun h => ?_) (fun h => ?_) | refine gd_case (fun h => ?_) (fun h => ?_)) <;> (try simp only [Da, Db, Dc, Dw, De, Df, Dg, Dh] at h)) | (with_reducible refine CALL_pure (f67 G _ q.at_) ?_) | (with_reducible refine CALL_pure (f68 G _ q.for_) ?_) | (with_reducible refine CALL_pure (f69 G _ q.start) ?_) | (with_reducible refine CALL_pure (hH) ?_) | (with_reducible refine CALL_pure (hM) ?_) | (with_reducible refine CALL_pure (hi) ?_) | simp -dsimp -implicitDefEqProofs only [EVz, seval, ↓reduceIte, reduceCtorEq, EV6, EV7, hk, hm1, Option.getD_some, Option.isSome_some, fnv, U.cs_fold, hne] | simp -dsimp -implicitDefEqProofs only [EVz, seval, ↓reduceIte, reduceCtorEq, EV6, EV7, hk, hm1, Option.getD_some, Option.isSome_some, fnv, U.cs_fold] | (with_reducible intro blk hblk; (try (have hnx := hblk; simp only [EVK] at hnx; first | (have hne := And.intro hnx hne) | (have hne := hnx)))) | (with_reducible refine both_case ?_ ?_) | (with_reducible refine same_case ?_) | (refine CALL_specN [] _ hRu.v (AVleA.rfl' _) (SubN.refl _) (fun r σ' hh hnd => ?_);obtain ⟨bm, rfl, rfl⟩ := hh;(have hne := hnd);(try simp [Store.keys] at hne)) | (refine RAW_lookup mapK_i (l := ruleTab) (k := 2) (z := .agg #[.nilFunc, .nilFunc]) (zv := .agg [.sc .nilFunc, .sc .nilFunc]) (eT := 107) rfl (rep_v_33 _) (by kernel_rfl) (by first | exact sget_hd | (simp [Store.get, *]; done)) (by kernel_rfl) rep_zr_33 ?_) | (refine CALL_pure_le hE (told_le_33 (by rw [Itm.cs_eq]; simp [AVleL, AVle1, Itm.told, Itm.just, iz, hk])) ?_) | fail))
  all_goals (refine RET.eq hR (congrArg AV.bool ?_); clear hR hH eH hM hE hRu hi hm1 hoo hkk q)
  all_goals (try (first
    | exact absurd h (by decide)
    | (simp [*]; done)
    | (simp [*, Bool.and_assoc]; done)
    | (simp_all; done)))

set_option maxHeartbeats 4000000 in
theorem valid_3 (x : Itm) (q : x.Short1) (hk : x.kind = 3) : Pure G Tryz.prog 38 [.agg x.cs] (.bool x.may) := by
  have hRu := f66 G hG
  have hH := f117 G x
  have eH := Itm.cs_eq { iz with old := x.old, new := x.new, nth := x.nth }
  simp only [iz, List.map_nil] at eH
  simp only [iz] at hH
  rw [eH] at hH
  have hM := f118 G x q
  have hE := f70 G x q.fit x.told
  have hm1 : mgets (3 : Int) ruleTab = some (.agg [fnv 117, fnv 118]) := by simp [mgets, ruleTab]
  have hi := f41 G (3 : Int)
  rw [show inR (3 : Int) 0 6 = true from by decide] at hi
  refine Pure.w c38 fun R hR => ?_
  unfold s38 r38
  rw [Itm.may_eq] at hR
  unfold Itm.pre at hR
  generalize decide (x = x.told) = e at *
  have hkk : inR x.kind 0 11 = true := by rw [hk]; decide
  have hoo : x.own (Itm.mayOne x.by_) = (okRow x.old 0 && (okRow x.new 1 && (inR x.nth 0 256 && (decide (0 < (x.old.length : Int)) || decide (x.nth = 0))))) := by unfold Itm.own; simp [hk]
  rw [hoo, hkk] at hR
  (repeat' (first | (with_reducible (first | refine split_case (fun h => ?_) (fun h => ?_) | refine gd_case (fun h => ?_) (fun h => ?_)) <;> (try simp only [Da, Db, Dc, Dw, De, Df, Dg, Dh] at h)) | (with_reducible refine CALL_pure (f67 G _ q.at_) ?_) | (with_reducible refine CALL_pure (f68 G _ q.for_) ?_) | (with_reducible refine CALL_pure (f69 G _ q.start) ?_) | (with_reducible refine CALL_pure (hH) ?_) | (with_reducible refine CALL_pure (hM) ?_) | (with_reducible refine CALL_pure (hi) ?_) | simp -dsimp -implicitDefEqProofs only [EVz, seval, ↓reduceIte, reduceCtorEq, EV6, EV7, hk, hm1, Option.getD_some, Option.isSome_some, fnv, U.cs_fold, hne] | simp -dsimp -implicitDefEqProofs only [EVz, seval, ↓reduceIte, reduceCtorEq, EV6, EV7, hk, hm1, Option.getD_some, Option.isSome_some, fnv, U.cs_fold] | (with_reducible intro blk hblk; (try (have hnx := hblk; simp only [EVK] at hnx; first | (have hne := And.intro hnx hne) | (have hne := hnx)))) | (with_reducible refine both_case ?_ ?_) | (with_reducible refine same_case ?_) | (refine CALL_specN [] _ hRu.v (AVleA.rfl' _) (SubN.refl _) (fun r σ' hh hnd => ?_);obtain ⟨bm, rfl, rfl⟩ := hh;(have hne := hnd);(try simp [Store.keys] at hne)) | (refine RAW_lookup mapK_i (l := ruleTab) (k := 3) (z := .agg #[.nilFunc, .nilFunc]) (zv := .agg [.sc .nilFunc, .sc .nilFunc]) (eT := 107) rfl (rep_v_33 _) (by kernel_rfl) (by first | exact sget_hd | (simp [Store.get, *]; done)) (by kernel_rfl) rep_zr_33 ?_) | (refine CALL_pure_le hE (told_le_33 (by rw [Itm.cs_eq]; simp [AVleL, AVle1, Itm.told, Itm.just, iz, hk])) ?_) | fail))
  all_goals (refine RET.eq hR (congrArg AV.bool ?_); clear hR hH eH hM hE hRu hi hm1 hoo hkk q)
  all_goals (try (first
    | exact absurd h (by decide)
    | (simp [*]; done)
    | (simp [*, Bool.and_assoc]; done)
    | (simp_all; done)))
end
end Go.Av
end
