/-
  LINT, 43: the law for items.
-/
import Derived.Test.YtedcgagodcfgmaaGreatDoorXL38toXL39
import Derived.Test.YtedcgagodcfgmaaGreatDoorXL40toXL42
import Derived.Test.YtedcgagodcfgmaaGreatDoorXL25toXAv28
import Derived.Test.YtedcgagodcfgmaaGreatDoorXP1toXL28
import Derived.Test.YtedcgagodcfgmaaGreatDoorXL20toXAv27
section
namespace Go.Av
open Go Go.RowKit Go.Proofs
set_option linter.unusedSimpArgs false
set_option linter.unusedVariables false

section
variable (G : Glob)
theorem f13 : ∀ x : Itm, x.Shorts → Pure G Tryz.prog 13 [.agg x.cs] (.lst 6 (x.refs.map Fnd.cs)) := by
  refine Itm.ind fun x ih hs => ?_
  by_cases hm : x.may = true
  · obtain ⟨h0, h11, _, _⟩ := may_pre hm
    have hh : x.kind = 0 ∨ x.kind = 1 ∨ x.kind = 2 ∨ x.kind = 3 ∨ x.kind = 4 ∨ x.kind = 5 ∨ x.kind = 6 ∨ x.kind = 7 ∨ x.kind = 8 ∨ x.kind = 9 ∨ x.kind = 10 ∨ x.kind = 11 := by omega
    rcases hh with h | h | h | h | h | h | h | h | h | h | h | h
    · cases hq : decide (2 ≤ x.wh) with
      | true => exact item_0_t G x hs hm h hq
      | false => exact item_0_f G x hs hm h hq
    · exact item_1 G x hs hm h
    · exact item_2 G x hs hm h
    · exact item_3 G x hs hm h
    · exact item_4 G x hs hm h
    · exact item_5 G x hs hm h
    · cases hq : decide (2 ≤ x.wh) with
      | true => exact item_6_t G x hs hm h hq
      | false => exact item_6_f G x hs hm h hq
    · exact item_7 G x hs hm h
    · exact item_8 G x hs hm h
    · exact item_9 G x hs hm h
    · exact item_10 G x hs hm h
    · exact item_11 G x hs hm h fun y hy => ih y hy (((Itm.Shorts_eq x).1 hs).2 y hy)
  · have hM := f20 G x hs
    have hm2 : x.may = false := by simpa using hm
    rw [hm2] at hM
    refine Pure.w c13 fun R hR => ?_
    unfold s13 r13
    rw [Itm.refs_eq, if_neg hm] at hR
    (repeat' (first | (with_reducible refine split_case (fun h => ?_) (fun h => ?_) <;> (try simp only [Da, Db, Dc, Dd, De, Df, Dg, Dh] at h)) | (with_reducible refine gd_case (fun h => ?_) (fun h => ?_) <;> (try simp only [Da, Db, Dc, Dd, De, Df, Dg, Dh] at h)) | (with_reducible refine pick_case (fun h => ?_) (fun h => ?_) <;> (try simp only [Da, Db, Dc, Dd, De, Df, Dg, Dh] at h)) | (with_reducible refine And.intro (by omega) ?_) | (with_reducible refine CALL_pure (hM) ?_) | (with_reducible refine CALL_pure (f32 G _ _) ?_) | simp -dsimp -implicitDefEqProofs only [EV1, EV2, EV3, EV4, EV5, seval, ↓reduceIte, reduceCtorEq, eq_self, Option.map_some, decide_true, decide_false, EV6, EV7] | (with_reducible intro blk hblk; (try (have hnx := hblk; simp only [EVK] at hnx; first | (have hne := And.intro hnx hne) | (have hne := hnx)))) | (with_reducible refine both_case ?_ ?_) | (with_reducible refine same_case ?_) | (refine ⟨[(fw 1 tInvalid).cs], rfl, (by simp [fw_cs]), rfl, ?_⟩) | (exfalso; omega)))
    exact hR _ _ (Or.inl (Or.inr ⟨rfl, rfl⟩))

/-- An act of which nothing is filled in. -/
def zActCs : List AV := [.int .i64 0, .str [], .int .i64 0, .int .i64 0, .int .i64 0, .str [], .nil]
theorem valid_zero : Pure G Tryz.prog 39 [.agg zActCs] (.bool false) := by
  refine Pure.w c39 fun R hR => ?_
  unfold s39 r39 zActCs
  (repeat' (first | (with_reducible refine split_case (fun h => ?_) (fun h => ?_) <;> (try simp only [Da, Db, Dc, Dd, De, Df, Dg, Dh] at h)) | (with_reducible refine gd_case (fun h => ?_) (fun h => ?_) <;> (try simp only [Da, Db, Dc, Dd, De, Df, Dg, Dh] at h)) | (with_reducible refine pick_case (fun h => ?_) (fun h => ?_) <;> (try simp only [Da, Db, Dc, Dd, De, Df, Dg, Dh] at h)) | (with_reducible refine And.intro (by omega) ?_)  | simp -dsimp -implicitDefEqProofs only [EV1, EV2, EV3, EV4, EV5, seval, ↓reduceIte, reduceCtorEq, eq_self, Option.map_some, decide_true, decide_false, EV6, EV7] | (with_reducible intro blk hblk; (try (have hnx := hblk; simp only [EVK] at hnx; first | (have hne := And.intro hnx hne) | (have hne := hnx)))) | (with_reducible refine both_case ?_ ?_) | (with_reducible refine same_case ?_) | (exfalso; omega)))
  (all_goals (first | (exact RET.eq hR rfl) | rfl | (refine RET.eq hR ?_; (refine congrArg AV.bool (Bool.eq_iff_iff.2 ?_); simp only [EVB] at *; omega)) | (refine RET.eq hR ?_; first | (simp only [hok, h, EVC, decide_true, decide_false]; done) | (simp only [hok, EVC, decide_true, decide_false]; done) | (simp only [hok, EVC, decide_true, decide_false]; refine congrArg AV.bool (decide_eq_decide.2 ?_); omega) | (simp_all []; done) | (simp_all []; omega) | grind | (norm_cast at *; simp_all []; done) | (norm_cast at *; simp_all []; omega)) | (refine hR _ _ (Or.inl (Or.inr ⟨rfl, ?_⟩)); simp []; done) | (refine hR _ _ (Or.inr ?_); simp [*, AVleL, AVle1, Itm.cs_eq, U.cs_eq, ]; done) | (rw [hok]; simp only [h, EVC, decide_true, decide_false]; done) | (rw [hok]; simp only [EVC, decide_true, decide_false]; done) | (simp_all []; done) | (simp_all []; omega) | grind | (norm_cast at *; simp_all []; done) | (norm_cast at *; simp_all []; omega)))
def actFnd : Fnd := ⟨-1, ⟨0, 0, 0⟩, 1, [97, 99, 116]⟩
theorem check_zero : Pure G Tryz.prog 15 [.agg zActCs] (.lst 6 [actFnd.cs]) := by
  have hV := valid_zero G
  refine Pure.w c15 fun R hR => ?_
  unfold s15 r15
  unfold zActCs at *
  (repeat' (first | (with_reducible refine split_case (fun h => ?_) (fun h => ?_) <;> (try simp only [Da, Db, Dc, Dd, De, Df, Dg, Dh] at h)) | (with_reducible refine gd_case (fun h => ?_) (fun h => ?_) <;> (try simp only [Da, Db, Dc, Dd, De, Df, Dg, Dh] at h)) | (with_reducible refine pick_case (fun h => ?_) (fun h => ?_) <;> (try simp only [Da, Db, Dc, Dd, De, Df, Dg, Dh] at h)) | (with_reducible refine And.intro (by omega) ?_) | (with_reducible refine CALL_pure (hV) ?_) | simp -dsimp -implicitDefEqProofs only [EV1, EV2, EV3, EV4, EV5, seval, ↓reduceIte, reduceCtorEq, eq_self, Option.map_some, decide_true, decide_false, EV6, EV7] | (with_reducible intro blk hblk; (try (have hnx := hblk; simp only [EVK] at hnx; first | (have hne := And.intro hnx hne) | (have hne := hnx)))) | (with_reducible refine both_case ?_ ?_) | (with_reducible refine same_case ?_) | (refine ⟨[actFnd.cs], rfl, (by simp [actFnd, Fnd.cs]), rfl, ?_⟩) | (exfalso; omega)))
  exact hR _ _ (Or.inl (Or.inr ⟨rfl, rfl⟩))
end
end Go.Av
end

section
namespace Go.Av
open Go Go.RowKit Go.Proofs
set_option linter.unusedSimpArgs false
set_option linter.unusedVariables false

theorem shortW_ok {l : List Wd} (h : shortW l = true) : l.length < 1000000 ∧ ∀ w ∈ l, w.text.length < 1000000 := by
  unfold shortW at h
  simp only [Bool.and_eq_true, List.all_eq_true, decide_eq_true_eq] at h
  exact ⟨by omega, fun w hw => by have := h.1 w hw; omega⟩
theorem shortss_all : ∀ {us : List U}, U.shortss us = true → ∀ k ∈ us, k.shorts = true
  | [], _, k, hk => by cases hk
  | u :: us, h, k, hk => by
    rw [U.shortss, Bool.and_eq_true] at h
    rcases List.mem_cons.1 hk with rfl | hk
    · exact h.1
    · exact shortss_all h.2 k hk
theorem shorts_flat : ∀ u : U, u.shorts = true → ∀ x ∈ u.flat, x.label.length < 1000000 ∧ x.head.length < 1000000 ∧ x.words.length < 1000000 ∧ (∀ w ∈ x.head, w.text.length < 1000000) ∧ (∀ w ∈ x.words, w.text.length < 1000000) := by
  refine U.ind fun u ih h x hx => ?_
  rw [U.shorts_eq] at h
  simp only [Bool.and_eq_true, decide_eq_true_eq] at h
  obtain ⟨h1, h2, h3, h4⟩ := h
  rw [U.flat_eq] at hx
  rcases List.mem_cons.1 hx with rfl | hx
  · have a := shortW_ok h2
    have b := shortW_ok h3
    exact ⟨by omega, a.1, b.1, a.2, b.2⟩
  · obtain ⟨k, hk, hx⟩ := flats_in hx
    exact ih k hk (shortss_all h4 k hk) x hx
theorem unit_short {u : U} (hf : u.fit) {m : Int} (hm : 0 ≤ m) (hm2 : m ≤ 100000) (h : u.few m = true) : u.Short := by
  unfold U.few at h
  simp only [Bool.and_eq_true, decide_eq_true_eq] at h
  obtain ⟨h1, h2⟩ := h
  have h3 := (U.size_ok u 0 m hm).2.2 h1
  exact ⟨⟨hf, by omega⟩, shorts_flat u h2⟩
theorem steps_ok {l : List Stp} (h : steps100 l = true) : ∀ s ∈ l, s.label.length ≤ 100 := by
  unfold steps100 at h
  simp only [List.all_eq_true, decide_eq_true_eq] at h
  intro s hs
  have := h s hs
  omega
theorem fews_all : ∀ {l : List Itm}, Itm.fews l = true → ∀ y ∈ l, y.few = true
  | [], _, y, hy => by cases hy
  | x :: l, h, y, hy => by
    rw [Itm.fews_cons, Bool.and_eq_true, Bool.and_eq_true] at h
    rcases List.mem_cons.1 hy with rfl | hy
    · exact h.1.2
    · exact fews_all h.2 y hy
theorem few_shorts : ∀ x : Itm, x.fit → x.few = true → x.Shorts := by
  refine Itm.ind fun x ih hf h => ?_
  rw [Itm.few_eq] at h
  unfold Itm.few0 at h
  simp only [Bool.and_eq_true, decide_eq_true_eq] at h
  obtain ⟨⟨a1, a2, a3, a4, a5, a6, a7, a8, a9, a10⟩, b1, b2, b3, b4, b5⟩ := h
  obtain ⟨h1, h2, h3, h4, h5, h6, h7⟩ := (Itm.fit_eq x).1 hf
  refine (Itm.Shorts_eq x).2 ⟨⟨hf, unit_short h3 (by omega) (by omega) a10, by omega, by omega, fun s hs => by have := steps_ok b3 s hs; omega, fun s hs => by have := steps_ok b4 s hs; omega, by omega, by omega, by omega, by omega, by omega, by omega⟩, fun y hy => ih y hy (h7 y hy) (fews_all b5 y hy)⟩
end Go.Av
end

section
namespace Go.Av
open Go Go.RowKit Go.Proofs
set_option linter.unusedSimpArgs false
set_option linter.unusedVariables false

def zU0 : U := ⟨⟨0, 0, 0⟩, 0, [], [], [], []⟩
theorem zU0_short : zU0.Short := by
  have e : zU0.flat = [zU0] := by rw [U.flat_eq]; show _ :: U.flats [] = _; rw [flats_nil]
  have hf : zU0.fit := (U.fit_eq _).2 ⟨by decide, ⟨by decide, by simp [zU0]⟩, ⟨by decide, by simp [zU0]⟩, by decide, by simp [zU0]⟩
  refine ⟨⟨hf, by rw [e]; simp⟩, fun x hx => ?_⟩
  rw [e, List.mem_singleton] at hx
  subst hx
  refine ⟨by decide, by decide, by decide, by simp [zU0], by simp [zU0]⟩
def exA : Itm := { iz with kind := 5, at_ := [⟨2, [53]⟩], label := [53] }
def exB : Itm := { iz with kind := 2, at_ := [⟨2, [53]⟩], old := [[97]], new := [[97]] }
theorem exA_short : exA.Shorts := by
  refine (Itm.Shorts_eq _).2 ⟨⟨(Itm.fit_eq _).2 ⟨by decide, by decide, zU0_short.1.1, by decide, by decide, by decide, by simp [exA, iz]⟩, zU0_short, by decide, by decide, by simp [exA, iz], by simp [exA, iz], by decide, by decide, by decide, by decide, by decide, by decide⟩, by simp [exA, iz]⟩
theorem exB_short : exB.Shorts := by
  refine (Itm.Shorts_eq _).2 ⟨⟨(Itm.fit_eq _).2 ⟨by decide, by decide, zU0_short.1.1, by decide, by decide, by decide, by simp [exB, iz]⟩, zU0_short, by decide, by decide, by simp [exB, iz], by simp [exB, iz], by decide, by decide, by decide, by decide, by decide, by decide⟩, by simp [exB, iz]⟩
theorem exA_finds : exA.finds = [fw 10 tOwnLabel] := by decide +kernel
theorem exB_finds : exB.finds = [fw 11 tNoEffect] := by decide +kernel

theorem Pure.le {G : Glob} {P : Program} {k : FuncId} {args args' : List AV} {r : AV} (h : Pure G P k args' r) (ha : AVleA args args') : Pure G P k args r := ⟨h.1, fun ρ w vs hS hA => h.2 ρ w vs hS (ha.rep hA)⟩
def exCells (k : Int) (a o w : AV) (l : List UInt8) : List AV := [.int .i64 k, a, .nil, .int .i64 0, .int .i64 0, .int .i64 0, .int .i64 0, .int .i64 0, .int .i64 0, .str [], .nil, .nil, .nil, o, w, .str l, .str [], .int .i64 0, .int .i64 0, .str [], .int .i64 0, .int .i64 0, .int .i64 0, .str [], .nil]

section
variable (G : Glob) (hG : GOk G)
include hG

set_option maxRecDepth 100000 in
theorem f10 : Pure G Tryz.prog 10 [] (.bool true) := by
  have hA := f12 G hG exA exA_short
  have hB := f12 G hG exB exB_short
  have hC := check_zero G
  rw [exA_finds] at hA
  rw [exB_finds] at hB
  simp only [List.map_cons, List.map_nil, fw_cs] at hA hB
  unfold zActCs at hC
  have hA' : ∀ b, Pure G Tryz.prog 12 [.agg (exCells 5 (.own (some b) 64 2 [[.int .i64 2, .str [53]]]) .nil .nil [53])] _ := fun b => Pure.le hA ⟨.inr (by rw [Itm.cs_eq]; simp [AVleL, AVle1, exA, iz, Stp.cs, exCells]), trivial⟩
  have hB' : ∀ b c d, Pure G Tryz.prog 12 [.agg (exCells 2 (.own (some b) 64 2 [[.int .i64 2, .str [53]]]) (.own (some c) 9 1 [[.str [97]]]) (.own (some d) 9 1 [[.str [97]]]) [])] _ := fun b c d => Pure.le hB ⟨.inr (by rw [Itm.cs_eq]; simp [AVleL, AVle1, exB, iz, Stp.cs, srow, exCells]), trivial⟩
  unfold exCells at hA' hB'
  clear hA hB
  refine Pure.w c10 fun R hR => ?_
  unfold s10 r10
  (repeat' (first | (with_reducible refine split_case (fun h => ?_) (fun h => ?_) <;> (try simp only [Da, Db, Dc, Dd, De, Df, Dg, Dh] at h)) | (with_reducible refine gd_case (fun h => ?_) (fun h => ?_) <;> (try simp only [Da, Db, Dc, Dd, De, Df, Dg, Dh] at h)) | (with_reducible refine pick_case (fun h => ?_) (fun h => ?_) <;> (try simp only [Da, Db, Dc, Dd, De, Df, Dg, Dh] at h)) | (with_reducible refine And.intro (by omega) ?_) | (with_reducible refine CALL_pure (hA' _) ?_) | (with_reducible refine CALL_pure (hB' _ _ _) ?_) | (with_reducible refine CALL_pure (hC) ?_) | simp -dsimp -implicitDefEqProofs only [EV1, EV2, EV3, EV4, EV5, seval, ↓reduceIte, reduceCtorEq, eq_self, Option.map_some, decide_true, decide_false, EV6, EV7, tOwnLabel, tNoEffect] | (with_reducible intro blk hblk; (try (have hnx := hblk; simp only [EVK] at hnx; first | (have hne := And.intro hnx hne) | (have hne := hnx)))) | (with_reducible refine both_case ?_ ?_) | (with_reducible refine same_case ?_) | (refine ⟨[[.int .i64 2, .str [53]]], rfl, (by simp), rfl, ?_⟩) | (refine ⟨[[.str [97]]], rfl, (by simp), rfl, ?_⟩) | (exfalso; omega)))
  all_goals (exact RET.eq hR rfl)

theorem f3 (x : Itm) (hf : x.fit) : Pure G Tryz.prog 3 [.agg x.cs] (.bool true) := by
  have hF := f9 G x hf
  have hW := f10 G hG
  refine Pure.w c3 fun R hR => ?_
  unfold s3 r3
  cases hfw : x.few with
  | false =>
    rw [hfw] at hF
    (repeat' (first | (with_reducible refine split_case (fun h => ?_) (fun h => ?_) <;> (try simp only [Da, Db, Dc, Dd, De, Df, Dg, Dh] at h)) | (with_reducible refine gd_case (fun h => ?_) (fun h => ?_) <;> (try simp only [Da, Db, Dc, Dd, De, Df, Dg, Dh] at h)) | (with_reducible refine pick_case (fun h => ?_) (fun h => ?_) <;> (try simp only [Da, Db, Dc, Dd, De, Df, Dg, Dh] at h)) | (with_reducible refine And.intro (by omega) ?_) | (with_reducible refine CALL_pure (hF) ?_) | (with_reducible refine CALL_pure (hW) ?_) | simp -dsimp -implicitDefEqProofs only [EV1, EV2, EV3, EV4, EV5, seval, ↓reduceIte, reduceCtorEq, eq_self, Option.map_some, decide_true, decide_false, EV6, EV7] | (with_reducible intro blk hblk; (try (have hnx := hblk; simp only [EVK] at hnx; first | (have hne := And.intro hnx hne) | (have hne := hnx)))) | (with_reducible refine both_case ?_ ?_) | (with_reducible refine same_case ?_) | (exfalso; omega)))
    exact RET.eq hR rfl
  | true =>
    have hs := few_shorts x hf hfw
    rw [hfw] at hF
    have h1 := f12 G hG x hs
    have h2 := f13 G x hs
    rw [← finds_refs] at h2
    have h3 := f11 G x.finds x.finds (by have := finds_len x; omega)
    rw [decide_eq_true rfl] at h3
    (repeat' (first | (with_reducible refine split_case (fun h => ?_) (fun h => ?_) <;> (try simp only [Da, Db, Dc, Dd, De, Df, Dg, Dh] at h)) | (with_reducible refine gd_case (fun h => ?_) (fun h => ?_) <;> (try simp only [Da, Db, Dc, Dd, De, Df, Dg, Dh] at h)) | (with_reducible refine pick_case (fun h => ?_) (fun h => ?_) <;> (try simp only [Da, Db, Dc, Dd, De, Df, Dg, Dh] at h)) | (with_reducible refine And.intro (by omega) ?_) | (with_reducible refine CALL_pure (hF) ?_) | (with_reducible refine CALL_pure (hW) ?_) | (with_reducible refine CALL_pure (h1) ?_) | (with_reducible refine CALL_pure (h2) ?_) | (with_reducible refine CALL_pure (h3) ?_) | simp -dsimp -implicitDefEqProofs only [EV1, EV2, EV3, EV4, EV5, seval, ↓reduceIte, reduceCtorEq, eq_self, Option.map_some, decide_true, decide_false, EV6, EV7] | (with_reducible intro blk hblk; (try (have hnx := hblk; simp only [EVK] at hnx; first | (have hne := And.intro hnx hne) | (have hne := hnx)))) | (with_reducible refine both_case ?_ ?_) | (with_reducible refine same_case ?_) | (exfalso; omega)))
    exact RET.eq hR rfl
end
end Go.Av
end
