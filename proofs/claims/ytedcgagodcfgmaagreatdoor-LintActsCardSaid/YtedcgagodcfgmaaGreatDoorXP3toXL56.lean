/-
  LINT, plain laws: few words, so short texts.
-/
import Derived.Test.YtedcgagodcfgmaaGreatDoorXL25toXAv29
import Derived.Test.YtedcgagodcfgmaaGreatDoorXP1toXL28
import Derived.Test.YtedcgagodcfgmaaGreatDoorXL40toXL43
import Derived.Test.YtedcgagodcfgmaaGreatDoorXL21toXOpI
import Derived.Test.YtedcgagodcfgmaaGreatDoorXL55
section
namespace Go.Av
open Go Go.RowKit Go.Proofs
set_option linter.unusedSimpArgs false
set_option linter.unusedVariables false

theorem shortW_ok {l : List Wd} (h : shortW l = true) : l.length < 1000000 ∧ ∀ w ∈ l, w.text.length < 1000000 := by
  unfold shortW at h
  simp only [Bool.and_eq_true, List.all_eq_true, decide_eq_true_eq] at h
  exact ⟨by omega, fun w hw => by have := h.1 w hw; omega⟩
theorem shortss_all : ∀ {us : List U}, U.shortss us = true → ∀ k ∈ us, k.shorts = true
  | [], _, k, hk => by cases hk
  | u :: us, h, k, hk => by
    rw [U.shortss, Bool.and_eq_true] at h
    rcases List.mem_cons.1 hk with rfl | hk
    · exact h.1
    · exact shortss_all h.2 k hk
theorem shorts_flat : ∀ u : U, u.shorts = true → ∀ x ∈ u.flat, x.label.length < 1000000 ∧ x.head.length < 1000000 ∧ x.words.length < 1000000 ∧ (∀ w ∈ x.head, w.text.length < 1000000) ∧ (∀ w ∈ x.words, w.text.length < 1000000) := by
  refine U.ind fun u ih h x hx => ?_
  rw [U.shorts_eq] at h
  simp only [Bool.and_eq_true, decide_eq_true_eq] at h
  obtain ⟨h1, h2, h3, h4⟩ := h
  rw [U.flat_eq] at hx
  rcases List.mem_cons.1 hx with rfl | hx
  · have a := shortW_ok h2
    have b := shortW_ok h3
    exact ⟨by omega, a.1, b.1, a.2, b.2⟩
  · obtain ⟨k, hk, hx⟩ := flats_in hx
    exact ih k hk (shortss_all h4 k hk) x hx
theorem unit_short {u : U} (hf : u.fit) {m : Int} (hm : 0 ≤ m) (hm2 : m ≤ 100000) (h : u.few m = true) : u.Short := by
  unfold U.few at h
  simp only [Bool.and_eq_true, decide_eq_true_eq] at h
  obtain ⟨h1, h2⟩ := h
  have h3 := (U.size_ok u 0 m hm).2.2 h1
  exact ⟨⟨hf, by omega⟩, shorts_flat u h2⟩
theorem steps_ok {l : List Stp} (h : steps100 l = true) : ∀ s ∈ l, s.label.length ≤ 100 := by
  unfold steps100 at h
  simp only [List.all_eq_true, decide_eq_true_eq] at h
  intro s hs
  have := h s hs
  omega
theorem fews_all : ∀ {l : List Itm}, Itm.fews l = true → ∀ y ∈ l, y.few = true
  | [], _, y, hy => by cases hy
  | x :: l, h, y, hy => by
    rw [Itm.fews_cons, Bool.and_eq_true, Bool.and_eq_true] at h
    rcases List.mem_cons.1 hy with rfl | hy
    · exact h.1.2
    · exact fews_all h.2 y hy
theorem few_shorts : ∀ x : Itm, x.fit → x.few = true → x.Shorts := by
  refine Itm.ind fun x ih hf h => ?_
  rw [Itm.few_eq] at h
  unfold Itm.few0 at h
  simp only [Bool.and_eq_true, decide_eq_true_eq] at h
  obtain ⟨⟨a1, a2, a3, a4, a5, a6, a7, a8, a9, a10⟩, b1, b2, b3, b4, b5⟩ := h
  obtain ⟨h1, h2, h3, h4, h5, h6, h7⟩ := (Itm.fit_eq x).1 hf
  refine (Itm.Shorts_eq x).2 ⟨⟨hf, unit_short h3 (by omega) (by omega) a10, by omega, by omega, fun s hs => by have := steps_ok b3 s hs; omega, fun s hs => by have := steps_ok b4 s hs; omega, by omega, by omega, by omega, by omega, by omega, by omega⟩, fun y hy => ih y hy (h7 y hy) (fews_all b5 y hy)⟩
end Go.Av
end

section
namespace Go.Av
open Go Go.RowKit Go.Proofs
set_option linter.unusedSimpArgs false
set_option linter.unusedVariables false

def zU0 : U := ⟨⟨0, 0, 0⟩, 0, [], [], [], []⟩
theorem zU0_short : zU0.Short := by
  have e : zU0.flat = [zU0] := by rw [U.flat_eq]; show _ :: U.flats [] = _; rw [flats_nil]
  have hf : zU0.fit := (U.fit_eq _).2 ⟨by decide, ⟨by decide, by simp [zU0]⟩, ⟨by decide, by simp [zU0]⟩, by decide, by simp [zU0]⟩
  refine ⟨⟨hf, by rw [e]; simp⟩, fun x hx => ?_⟩
  rw [e, List.mem_singleton] at hx
  subst hx
  refine ⟨by decide, by decide, by decide, by simp [zU0], by simp [zU0]⟩
def exA : Itm := { iz with kind := 5, at_ := [⟨2, [53]⟩], label := [53] }
def exB : Itm := { iz with kind := 2, at_ := [⟨2, [53]⟩], old := [[97]], new := [[97]] }
theorem exA_short : exA.Shorts := by
  refine (Itm.Shorts_eq _).2 ⟨⟨(Itm.fit_eq _).2 ⟨by decide, by decide, zU0_short.1.1, by decide, by decide, by decide, by simp [exA, iz]⟩, zU0_short, by decide, by decide, by simp [exA, iz], by simp [exA, iz], by decide, by decide, by decide, by decide, by decide, by decide⟩, by simp [exA, iz]⟩
theorem exB_short : exB.Shorts := by
  refine (Itm.Shorts_eq _).2 ⟨⟨(Itm.fit_eq _).2 ⟨by decide, by decide, zU0_short.1.1, by decide, by decide, by decide, by simp [exB, iz]⟩, zU0_short, by decide, by decide, by simp [exB, iz], by simp [exB, iz], by decide, by decide, by decide, by decide, by decide, by decide⟩, by simp [exB, iz]⟩
theorem exA_finds : exA.finds = [fw 10 tOwnLabel] := by decide +kernel
theorem exB_finds : exB.finds = [fw 11 tNoEffect] := by decide +kernel

theorem Pure.le {G : Glob} {P : Program} {k : FuncId} {args args' : List AV} {r : AV} (h : Pure G P k args' r) (ha : AVleA args args') : Pure G P k args r := ⟨h.1, fun ρ w vs hS hA => h.2 ρ w vs hS (ha.rep hA)⟩
def exCells (k : Int) (a o w : AV) (l : List UInt8) : List AV := [.int .i64 k, a, .nil, .int .i64 0, .int .i64 0, .int .i64 0, .int .i64 0, .int .i64 0, .int .i64 0, .str [], .nil, .nil, .nil, o, w, .str l, .str [], .int .i64 0, .int .i64 0, .str [], .int .i64 0, .int .i64 0, .int .i64 0, .str [], .nil]

section
variable (G : Glob) (hG : GOk G)
include hG

set_option maxRecDepth 100000 in
theorem f10 : Pure G Tryz.prog 10 [] (.bool true) := by
  have hA := f12 G hG exA exA_short
  have hB := f12 G hG exB exB_short
  have hC := check_zero G
  rw [exA_finds] at hA
  rw [exB_finds] at hB
  simp only [List.map_cons, List.map_nil, fw_cs] at hA hB
  unfold zActCs at hC
  have hA' : ∀ b, Pure G Tryz.prog 12 [.agg (exCells 5 (.own (some b) 64 2 [[.int .i64 2, .str [53]]]) .nil .nil [53])] _ := fun b => Pure.le hA ⟨.inr (by rw [Itm.cs_eq]; simp [AVleL, AVle1, exA, iz, Stp.cs, exCells]), trivial⟩
  have hB' : ∀ b c d, Pure G Tryz.prog 12 [.agg (exCells 2 (.own (some b) 64 2 [[.int .i64 2, .str [53]]]) (.own (some c) 9 1 [[.str [97]]]) (.own (some d) 9 1 [[.str [97]]]) [])] _ := fun b c d => Pure.le hB ⟨.inr (by rw [Itm.cs_eq]; simp [AVleL, AVle1, exB, iz, Stp.cs, srow, exCells]), trivial⟩
  unfold exCells at hA' hB'
  clear hA hB
  refine Pure.w c10 fun R hR => ?_
  unfold s10 r10
  (repeat' (first | (with_reducible (first | refine split_case (fun h => ?_) (fun h => ?_) | refine gd_case (fun h => ?_) (fun h => ?_) | refine pick_case (fun h => ?_) (fun h => ?_)) <;> (try simp only [Da, Db, Dc, Dd, De, Df, Dg, Dh] at h)) | (with_reducible refine And.intro (by omega) ?_) | (with_reducible refine CALL_pure (hA' _) ?_) | (with_reducible refine CALL_pure (hB' _ _ _) ?_) | (with_reducible refine CALL_pure (hC) ?_) | simp -dsimp -implicitDefEqProofs only [EV1, EV2, EV3, EV4, EV5, seval, ↓reduceIte, reduceCtorEq, eq_self, Option.map_some, decide_true, decide_false, EV6, EV7, tOwnLabel, tNoEffect] | (with_reducible intro blk hblk; (try (have hnx := hblk; simp only [EVK] at hnx; first | (have hne := And.intro hnx hne) | (have hne := hnx)))) | (with_reducible refine both_case ?_ ?_) | (with_reducible refine same_case ?_) | (refine ⟨[[.int .i64 2, .str [53]]], rfl, (by simp), rfl, ?_⟩) | (refine ⟨[[.str [97]]], rfl, (by simp), rfl, ?_⟩) | (exfalso; omega)))
  all_goals (exact RET.eq hR rfl)

end
end Go.Av
end

section
namespace Go.Av
open Go Go.RowKit Go.Proofs
set_option linter.unusedSimpArgs false
set_option linter.unusedVariables false

theorem chk_len {a : Ac} (h : a.items.length ≤ 40) : a.chk.length ≤ 480 := by
  unfold Ac.chk
  split
  · have := chkFrom_len a a.items 0; omega
  · simp
theorem few_act {a : Ac} (hf : ∀ x ∈ a.items, x.fit) (h : a.few = true) : a.items.length ≤ 40 ∧ a.title.length ≤ 300 ∧ a.start.event.length ≤ 100 ∧ ∀ x ∈ a.items, x.Shorts := by
  unfold Ac.few at h
  simp only [Bool.and_eq_true, decide_eq_true_eq] at h
  exact ⟨h.1.1.1, h.1.1.2, h.1.2, fun x hx => few_shorts x (hf x hx) (List.all_eq_true.1 h.2 x hx)⟩
section
variable (G : Glob) (hG : GOk G) (hG2 : GOk2 G)
include hG hG2
theorem f4 (a : Ac) (hl : a.items.length < 1000000000000000000) (hf : ∀ x ∈ a.items, x.fit) : Pure G Tryz.prog 4 [.agg a.cs] (.bool true) := by
  have hF := f14 G a (by omega) hf
  have hW := f10 G hG
  refine Pure.w c4 fun R hR => ?_
  unfold s4 r4
  cases hfw : a.few with
  | false =>
    rw [hfw] at hF
    unfold Ac.cs at hF ⊢
    (repeat' (first | (with_reducible refine CALL_pure (hF) ?_) | (with_reducible refine CALL_pure (hW) ?_) | simp -dsimp -implicitDefEqProofs only [EV1, EV2, EV3, EV4, EV5, seval, ↓reduceIte, reduceCtorEq, eq_self, Option.map_some, decide_true, decide_false, EV6, EV7]))
    exact RET.eq hR rfl
  | true =>
    obtain ⟨h40, h300, h100, hs⟩ := few_act hf hfw
    rw [hfw] at hF
    have h1 := f15 G hG hG2 a (by omega) (by omega) (by omega) hs
    have h2 := f16 G a (by omega) (by omega) hs
    have h3 := f11 G a.chk a.chk (by have := chk_len h40; omega)
    rw [decide_eq_true rfl] at h3
    unfold Ac.cs at hF h1 h2 ⊢
    (repeat' (first | (with_reducible refine CALL_pure (hF) ?_) | (with_reducible refine CALL_pure (hW) ?_) | (with_reducible refine CALL_pure (h1) ?_) | (with_reducible refine CALL_pure (h2) ?_) | (with_reducible refine CALL_pure (h3) ?_) | simp -dsimp -implicitDefEqProofs only [EV1, EV2, EV3, EV4, EV5, seval, ↓reduceIte, reduceCtorEq, eq_self, Option.map_some, decide_true, decide_false, EV6, EV7]))
    exact RET.eq hR rfl
end
end Go.Av
end
