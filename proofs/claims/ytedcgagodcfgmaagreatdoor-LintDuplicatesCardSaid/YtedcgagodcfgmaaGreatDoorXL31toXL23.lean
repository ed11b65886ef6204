/-
  LINT, 31: the program's rules for the kinds.
-/
import Derived.Test.YtedcgagodcfgmaaGreatDoorXL30toXAv28
import Derived.Test.YtedcgagodcfgmaaGreatDoorXL25toXL50
import Derived.Test.YtedcgagodcfgmaaGreatDoorXL46toXL24
section
namespace Go.Av
open Go Go.RowKit Go.Proofs
set_option linter.unusedSimpArgs false
set_option linter.unusedVariables false

section
variable (G : Glob) (hG : GOk G)
include hG

theorem f119 (u : U) (hs : u.Short) : Pure G Tryz.prog 119 [.agg u.cs] (.bool (bareOk u && (decide (u.kind ≠ 0) && decide ((textOf u).2 = 0)))) := by
  have hF := f193 G hG u hs
  have hB := f194 G hG u hs
  rw [← bareOk_two] at hB
  refine Pure.w c119 fun R hR => ?_
  unfold s119 r119
  (repeat' (first | (with_reducible (refine gd_case (fun h => ?_) (fun h => ?_)) <;> (try simp only [Da, Db, Dc, Dd, De, Df, Dg, Dh] at h)) | (with_reducible refine CALL_pure (hF) ?_) | (with_reducible refine CALL_pure (hB) ?_) | simp -dsimp -implicitDefEqProofs only [EV1, EV2, EV3, EV4, EV5, seval, ↓reduceIte, reduceCtorEq, eq_self, Option.map_some, decide_true, decide_false, EV6, EV7]))
  (all_goals (first | (refine RET.eq hR ?_; (refine congrArg AV.bool (Bool.eq_iff_iff.2 ?_); simp only [EVB] at *; omega)) | (refine RET.eq hR ?_; ((simp_all []; done)))))
theorem f117 (x : Itm) (hs : x.unit.Short) : Pure G Tryz.prog 117 [.agg x.cs] (.bool (inR x.wh 0 3 && (bareOk x.unit && (decide (x.unit.kind ≠ 0) && decide ((textOf x.unit).2 = 0))))) := by
  have hU := f119 G hG x.unit hs
  refine Pure.w c117 fun R hR => ?_
  unfold s117 r117
  generalize (bareOk x.unit && (decide (x.unit.kind ≠ 0) && decide ((textOf x.unit).2 = 0))) = q at *
  (repeat' (first | (with_reducible (refine gd_case (fun h => ?_) (fun h => ?_)) <;> (try simp only [Da, Db, Dc, Dd, De, Df, Dg, Dh] at h)) | (with_reducible refine CALL_pure (f118 G _) ?_) | (with_reducible refine CALL_pure (hU) ?_) | simp -dsimp -implicitDefEqProofs only [EV1, EV2, EV3, EV4, EV5, seval, ↓reduceIte, reduceCtorEq, eq_self, Option.map_some, decide_true, decide_false, EV6, EV7, U.cs_fold]))
  (all_goals (((refine RET.eq hR ?_; ((simp_all []; done))))))
end
section
variable (G : Glob)
theorem f123 (x : Itm) (q : x.Short1) : Pure G Tryz.prog 123 [.agg x.cs] (.bool (okRow x.old 1 && (okRow x.new 0 && inR x.nth 0 256))) := by
  have ho := fun n => f124 G x.old n (by have := q.old; omega)
  have hn := fun n => f124 G x.new n (by have := q.new; omega)
  refine Pure.w c123 fun R hR => ?_
  unfold s123 r123
  unfold okRow at *
  (repeat' (first | (with_reducible (refine gd_case (fun h => ?_) (fun h => ?_)) <;> (try simp only [Da, Db, Dc, Dd, De, Df, Dg, Dh] at h)) | (with_reducible refine CALL_pure (ho _) ?_) | (with_reducible refine CALL_pure (hn _) ?_) | (with_reducible refine CALL_pure (f125 G x) ?_) | simp -dsimp -implicitDefEqProofs only [EV1, EV2, EV3, EV4, EV5, seval, ↓reduceIte, reduceCtorEq, eq_self, Option.map_some, decide_true, decide_false, EV6, EV7]))
  (all_goals (((refine RET.eq hR ?_; first | (simp_all []; done) | grind))))
theorem f127 (x : Itm) (q : x.Short1) : Pure G Tryz.prog 127 [.agg x.cs] (.bool (okRow x.old 0 && (okRow x.new 1 && (inR x.nth 0 256 && (decide (0 < (x.old.length : Int)) || decide (x.nth = 0)))))) := by
  have ho := f124 G x.old 0 (by have := q.old; omega)
  have hn := f124 G x.new 1 (by have := q.new; omega)
  refine Pure.w c127 fun R hR => ?_
  unfold s127 r127
  unfold okRow at *
  generalize (seqOk x.old && decide ((0 : Int) ≤ (x.old.length : Int))) = q1 at *
  generalize (seqOk x.new && decide ((1 : Int) ≤ (x.new.length : Int))) = q2 at *
  have hth := f125 G x
  generalize inR x.nth 0 256 = q3 at *
  (repeat' (first | (with_reducible (refine gd_case (fun h => ?_) (fun h => ?_)) <;> (try simp only [Da, Db, Dc, Dd, De, Df, Dg, Dh] at h)) | (with_reducible refine CALL_pure (ho) ?_) | (with_reducible refine CALL_pure (hn) ?_) | (with_reducible refine CALL_pure (hth) ?_) | simp -dsimp -implicitDefEqProofs only [EV1, EV2, EV3, EV4, EV5, seval, ↓reduceIte, reduceCtorEq, eq_self, Option.map_some, decide_true, decide_false, EV6, EV7]))
  (all_goals (((refine RET.eq hR ?_; ((simp_all []; done))))))
theorem f129 (x : Itm) (q : x.Short1) : Pure G Tryz.prog 129 [.agg x.cs] (.bool (okRow x.new 0)) := by
  have hn := fun n => f124 G x.new n (by have := q.new; omega)
  refine Pure.w c129 fun R hR => ?_
  unfold s129 r129
  unfold okRow at *
  (repeat' (first | (with_reducible refine CALL_pure (hn _) ?_) | simp -dsimp -implicitDefEqProofs only [EV1, EV2, EV3, EV4, EV5, seval, ↓reduceIte, reduceCtorEq, eq_self, Option.map_some, decide_true, decide_false, EV6, EV7]))
  (all_goals ((exact RET.eq hR rfl)))
theorem f131 (x : Itm) : Pure G Tryz.prog 131 [.agg x.cs] (.bool (labelOk x.label)) := by
  refine Pure.w c131 fun R hR => ?_
  unfold s131 r131
  (repeat' (first | (with_reducible refine CALL_pure (f132 G _) ?_) | simp -dsimp -implicitDefEqProofs only [EV1, EV2, EV3, EV4, EV5, seval, ↓reduceIte, reduceCtorEq, eq_self, Option.map_some, decide_true, decide_false, EV6, EV7]))
  (all_goals ((exact RET.eq hR rfl)))
theorem f134 (x : Itm) (q : x.Short1) : Pure G Tryz.prog 134 [.agg x.cs] (.bool (inR x.wh 0 3 && addrOk x.to_)) := by
  have ha := f71 G x.to_ q.to_
  refine Pure.w c134 fun R hR => ?_
  unfold s134 r134
  (repeat' (first | (with_reducible (refine gd_case (fun h => ?_) (fun h => ?_)) <;> (try simp only [Da, Db, Dc, Dd, De, Df, Dg, Dh] at h)) | (with_reducible refine CALL_pure (f118 G _) ?_) | (with_reducible refine CALL_pure (ha) ?_) | simp -dsimp -implicitDefEqProofs only [EV1, EV2, EV3, EV4, EV5, seval, ↓reduceIte, reduceCtorEq, eq_self, Option.map_some, decide_true, decide_false, EV6, EV7]))
  (all_goals (((refine RET.eq hR ?_; ((simp_all []; done))))))
theorem f136 (x : Itm) (q : x.Short1) : Pure G Tryz.prog 136 [.agg x.cs] (.bool (nameOk x.event && inR x.day 0 1048576)) := by
  have ha := f72 G x.event q.event
  refine Pure.w c136 fun R hR => ?_
  unfold s136 r136
  (repeat' (first | (with_reducible (refine gd_case (fun h => ?_) (fun h => ?_)) <;> (try simp only [Da, Db, Dc, Dd, De, Df, Dg, Dh] at h)) | (with_reducible refine CALL_pure (f137 G _ _ _) ?_) | (with_reducible refine CALL_pure (ha) ?_) | simp -dsimp -implicitDefEqProofs only [EV1, EV2, EV3, EV4, EV5, seval, ↓reduceIte, reduceCtorEq, eq_self, Option.map_some, decide_true, decide_false, EV6, EV7]))
  (all_goals (((refine RET.eq hR ?_; ((simp_all []; done))))))
theorem f139 (x : Itm) (q : x.Short1) (hy : ∀ y ∈ x.by_, Pure G Tryz.prog 30 [.agg y.cs] (.bool y.may)) :
    Pure G Tryz.prog 139 [.agg x.cs] (.bool (inR x.act 1 1048576 && (inR x.item 0 31 && Itm.mayOne x.by_))) := by
  refine Pure.w c139 fun R hR => ?_
  unfold s139 r139
  have hA := f140 G x 0
  generalize inR x.act 1 1048576 = q1 at *
  generalize inR x.item 0 31 = q2 at *
  rcases hb : x.by_ with _ | ⟨y, _ | ⟨z, l⟩⟩
  · rw [hb, Itm.mayOne] at hR
    (repeat' (first | (with_reducible (refine gd_case (fun h => ?_) (fun h => ?_)) <;> (try simp only [Da, Db, Dc, Dd, De, Df, Dg, Dh] at h)) | (with_reducible refine CALL_pure (hA) ?_) | simp -dsimp -implicitDefEqProofs only [EV1, EV2, EV3, EV4, EV5, seval, ↓reduceIte, reduceCtorEq, eq_self, Option.map_some, decide_true, decide_false, EV6, EV7, hb, List.map_nil, List.length_nil]))
    (all_goals (((refine RET.eq hR ?_; ((simp_all []; done))))))
  · rw [hb, Itm.mayOne_cons] at hR
    have hyy := hy y (by rw [hb]; simp)
    (repeat' (first | (with_reducible (refine gd_case (fun h => ?_) (fun h => ?_)) <;> (try simp only [Da, Db, Dc, Dd, De, Df, Dg, Dh] at h)) | (with_reducible refine CALL_pure (hA) ?_) | (with_reducible refine CALL_pure (f70 G _) ?_) | (with_reducible refine CALL_pure (hyy) ?_) | simp -dsimp -implicitDefEqProofs only [EV1, EV2, EV3, EV4, EV5, seval, ↓reduceIte, reduceCtorEq, eq_self, Option.map_some, decide_true, decide_false, EV6, EV7, hb, List.map_cons, List.map_nil, List.length_nil, List.length_cons, List.getD_cons_zero]))
    (all_goals (((refine RET.eq hR ?_; ((simp_all []; done))))))
  · rw [hb, Itm.mayOne_cons] at hR
    have h1 : decide (((x.by_.length : Nat) : Int) = 1) = false := by rw [hb]; simp; omega
    (repeat' (first | (with_reducible (refine gd_case (fun h => ?_) (fun h => ?_)) <;> (try simp only [Da, Db, Dc, Dd, De, Df, Dg, Dh] at h)) | (with_reducible refine CALL_pure (hA) ?_) | simp -dsimp -implicitDefEqProofs only [EV1, EV2, EV3, EV4, EV5, seval, ↓reduceIte, reduceCtorEq, eq_self, Option.map_some, decide_true, decide_false, EV6, EV7, h1]))
    (all_goals (((refine RET.eq hR ?_; ((simp_all []; done))))))
end
end Go.Av
end

section
namespace Go.Av
open Go Go.RowKit Go.Proofs
set_option linter.unusedSimpArgs false
set_option linter.unusedVariables false

def fnv (k : Nat) : AV := .sc (.func (.func k) #[] #[])
def intK (n : Int) : Value := .int .i64 n
def ruleTab : List (Int × AV) := [(0, .agg [fnv 116, fnv 117]), (1, .agg [fnv 120, fnv 121]), (2, .agg [fnv 122, fnv 123]), (3, .agg [fnv 126, fnv 127]),
  (4, .agg [fnv 128, fnv 129]), (5, .agg [fnv 130, fnv 131]), (6, .agg [fnv 133, fnv 134]), (7, .agg [fnv 365, fnv 366]), (8, .agg [fnv 365, fnv 366]),
  (9, .agg [fnv 365, fnv 366]), (10, .agg [fnv 135, fnv 136]), (11, .agg [fnv 138, fnv 139])]
theorem sget_hd {b : Nat} {x : AObj} {σ : Store} : Store.get ((b, x) :: σ) b = some x := by simp [Store.get]
theorem mapK_i : MapK Tryz.prog 3 intK := mapK_int (by kernel_rfl)
theorem rep_ci {G : Glob} {env : Env} (n : Int) : ∀ τ w v, Rep τ w ((SOpd.of (.const (.int .i64 n))).eval G env) v → v = intK n := by
  intro τ w v h
  have h2 : v = .int .i64 n := by simpa only [SOpd.of, SOpd.eval, AV.ofValue, AV.ofOne, Rep] using h
  exact h2

section
variable (G : Glob) (hG : GOk G)
include hG

theorem f69 : FnSpec G Tryz.prog 69 [] [] (fun r σ => ∃ b, r = .sc (.map (some b)) ∧ σ = [(b, .map (mrows intK ruleTab))]) := by
  have hg := eval_g hG.order
  refine FnSpec.w c69 ?_
  unfold s69 r69
  (try simp -dsimp -implicitDefEqProofs only [EV1, EV2, EV3, EV4, EV5, seval, ↓reduceIte, reduceCtorEq, eq_self, Option.map_some, decide_true, decide_false, EV6, EV7])
  refine RAW_makeMap ?_
  intro b hb
  (try simp -dsimp -implicitDefEqProofs only [EV1, EV2, EV3, EV4, EV5, seval, ↓reduceIte, reduceCtorEq, eq_self, Option.map_some, decide_true, decide_false, EV6, EV7])
  refine RAW_insert mapK_i (l := []) (k := 0) (eT := 107) rfl (rep_ci 0) rfl (by kernel_rfl) sget_hd ?_
  (repeat' (first | simp -dsimp -implicitDefEqProofs only [EV1, EV2, EV3, EV4, EV5, seval, ↓reduceIte, reduceCtorEq, eq_self, Option.map_some, decide_true, decide_false, EV6, EV7, hg] | (refine RAW_insert mapK_i (eT := 107) rfl (rep_ci _) rfl (by kernel_rfl) sget_hd ?_)))
  exact RET.mk (SubN.refl _) ⟨b, rfl, rfl⟩
end
end Go.Av
end

section
namespace Go.Av
open Go Go.RowKit Go.Proofs
set_option linter.unusedSimpArgs false
set_option linter.unusedVariables false

section
variable (G : Glob)
theorem f93 (f : Value) (a b : List Itm) (ha : a.length < 9000000000000000000) (hf : ∀ x ∈ a, ∀ y, VPure G Tryz.prog f [.agg x.cs, .agg y.cs] (.bool (decide (x = y)))) :
    Pure G Tryz.prog 93 [.lst 25 (a.map Itm.cs), .lst 25 (b.map Itm.cs), .sc f] (.bool (decide (a = b))) := by
  refine Pure.w c93 fun R hR => ?_
  unfold s93 r93
  by_cases hl : a.length = b.length
  · have e0 : decide ((a.length : Int) ≠ (b.length : Int)) = false := by simp [hl]
    (repeat' (first | (with_reducible (refine split_case (fun h => ?_) (fun h => ?_)) <;> (try simp only [Da, Db, Dc, Dd, De, Df, Dg, Dh] at h)) | (with_reducible refine And.intro (by omega) ?_) | simp -dsimp -implicitDefEqProofs only [EV1, EV2, EV3, EV4, EV5, seval, ↓reduceIte, reduceCtorEq, eq_self, Option.map_some, decide_true, decide_false, EV6, EV7, e0, hx.yes, hx.le0, hx.lt', hx.get, hx.row, hw, hy.row, hy.lt', hne] | simp -dsimp -implicitDefEqProofs only [EV1, EV2, EV3, EV4, EV5, seval, ↓reduceIte, reduceCtorEq, eq_self, Option.map_some, decide_true, decide_false, EV6, EV7, e0, hx.yes, hx.le0, hx.lt', hx.get, hx.row, hw, hy.row, hy.lt'] | simp -dsimp -implicitDefEqProofs only [EV1, EV2, EV3, EV4, EV5, seval, ↓reduceIte, reduceCtorEq, eq_self, Option.map_some, decide_true, decide_false, EV6, EV7, e0, hn] | simp -dsimp -implicitDefEqProofs only [EV1, EV2, EV3, EV4, EV5, seval, ↓reduceIte, reduceCtorEq, eq_self, Option.map_some, decide_true, decide_false, EV6, EV7, e0] | (with_reducible intro blk hblk; (try (have hnx := hblk; simp only [EVK] at hnx; first | (have hne := And.intro hnx hne) | (have hne := hnx)))) | (refine LK_next hx () ?_ (Weak.sub (SubN.nil _))) | (refine CALL_vpure (hf _ hx.mem y) ?_) | (refine W_list (a) (fun i r (c : Unit) => a.length = b.length ∧ decide (a = b) = decide (r = b.drop i)) (fun i c => [(1, .lst 25 (b.map Itm.cs)), (2, .sc f), (15, .lst 25 (a.map Itm.cs)), (16, .int .i64 a.length), (17, .int .i64 i)]) (fun _ _ => []) () (by ((simp [*]; done))) (Weak.rfl' _ _) (by omega) (fun i x r c hok hx hw => ?_) (fun c hok hn => ?_) <;> (try (obtain ⟨y, r2, hy, hyn, hok⟩ := pair_more hok hx)) )))
    (all_goals (first | (refine RET.eq hR ?_; ((simp_all [hl]; done))) | (simp_all [hl]; done)))
  · have e0 : decide ((a.length : Int) ≠ (b.length : Int)) = true := by simp; omega
    rw [dec_len hl] at hR
    (repeat' (simp -dsimp -implicitDefEqProofs only [EV1, EV2, EV3, EV4, EV5, seval, ↓reduceIte, reduceCtorEq, eq_self, Option.map_some, decide_true, decide_false, EV6, EV7, e0]))
    (all_goals ((exact RET.eq hR rfl)))

set_option maxHeartbeats 4000000 in
theorem f42 : ∀ (a : Itm), a.fit → ∀ b : Itm, Pure G Tryz.prog 42 [.agg a.cs, .agg b.cs] (.bool (decide (a = b))) := by
  refine Itm.ind fun a ih hfit b => ?_
  obtain ⟨h1, h2, h3, h4, h5, h6, h7⟩ := (Itm.fit_eq a).1 hfit
  refine Pure.w c42 fun R hR => ?_
  unfold s42 r42
  (repeat' (first | (with_reducible (refine gd_case (fun h => ?_) (fun h => ?_)) <;> (try simp only [Da, Db, Dc, Dd, De, Df, Dg, Dh] at h)) | (with_reducible refine CALL_pure (f82 G _ _ (by omega)) ?_) | (with_reducible refine CALL_pure (f91 G _ _ (by omega)) ?_) | (with_reducible refine CALL_pure (f92 G a.unit h3 b.unit) ?_) | (with_reducible refine CALL_pure (f93 G _ _ _ (by omega) (fun x hx y => (ih x hx (h7 x hx) y).v)) ?_) | simp -dsimp -implicitDefEqProofs only [EV1, EV2, EV3, EV4, EV5, seval, ↓reduceIte, reduceCtorEq, eq_self, Option.map_some, decide_true, decide_false, EV6, EV7, U.cs_fold]))
  all_goals first
    | (refine RET.eq hR (congrArg AV.bool (Eq.symm (decide_eq_false ?_))); rintro rfl; first | exact absurd rfl h | exact absurd rfl ‹¬ _ = _› | exact sta_ne (by assumption) rfl)
    | (refine RET.eq hR (congrArg AV.bool (decide_eq_decide.2 ⟨fun e => ?_, fun e => by rw [e]⟩))
       exact Itm.ext' (by assumption) (by assumption) (by assumption) (by assumption) (by assumption) (by assumption) (by assumption) (by assumption) (by assumption) (by assumption) (sta_eq (by assumption)) (by assumption) (by assumption) (by assumption) (by assumption) e)
    | trace_state
end
end Go.Av
end
