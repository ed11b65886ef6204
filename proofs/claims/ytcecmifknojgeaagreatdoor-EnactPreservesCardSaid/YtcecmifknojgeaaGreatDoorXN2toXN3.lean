/-
  ENACT LAWS, 2: the example of the chapter.
-/
import Derived.Test.YtcecmifknojgeaaGreatDoorXE16toXC7
import Derived.Test.YtcecmifknojgeaaGreatDoorXN1toXN0
import Derived.Test.YtcecmifknojgeaaGreatDoorXM31toXM33
section
namespace Go.Av
open Go Go.RowKit Go.Proofs
set_option linter.unusedSimpArgs false
set_option linter.unusedVariables false

def exW : List Wd := [⟨[97], 0, 0, 0⟩, ⟨[98], 0, 0, 0⟩, ⟨[97], 0, 0, 0⟩]
def exUnit : U := ⟨zId, 2, [53], [], exW, []⟩
def exNo : U := ⟨zId, 0, [], [], [], []⟩
def exI1 : Itm := ⟨0, [], [], 1, 0, exUnit, [], [], [], [], ⟨0, 0, []⟩, 0, 0, 0, [], []⟩
def exI2 : Itm := ⟨2, [⟨2, [53]⟩], [], 0, 0, exNo, [[97]], [[99]], [], [], ⟨0, 0, []⟩, 0, 0, 0, [], []⟩
def exDs : List Dd := [⟨1, 0, 0, exI1⟩, ⟨2, 0, 0, exI2⟩]
def exV : U := ⟨zId, 0, [], [], [], [⟨⟨1, 0, 1⟩, 2, [53], [], [⟨[99], 2, 0, 0⟩, ⟨[98], 1, 0, 1⟩, ⟨[99], 2, 0, 1⟩], []⟩]⟩
set_option maxRecDepth 100000 in
theorem ex_all : allP emptyU exDs = (exV, []) := by kernel_rfl
theorem short_no : exNo.Short := by
  have hf : exNo.fit := (U.fit_eq _).2 ⟨by decide, ⟨by decide, by simp [exNo]⟩, ⟨by decide, by simp [exNo]⟩, by decide, by simp [exNo]⟩
  have hl : exNo.flat = [exNo] := by rw [U.flat_eq]; show exNo :: U.flats [] = _; rw [U.flats]
  refine ⟨⟨hf, by rw [hl]; decide⟩, ?_⟩
  rw [hl]
  intro x hx
  simp only [List.mem_singleton] at hx
  subst hx
  exact ⟨by decide, by decide, by decide, by simp [exNo], by simp [exNo]⟩
theorem short_unit : exUnit.Short := by
  have hf : exUnit.fit := (U.fit_eq _).2 ⟨by decide, ⟨by decide, by simp [exUnit]⟩, ⟨by decide, by simp [exUnit, exW]⟩, by decide, by simp [exUnit]⟩
  have hl : exUnit.flat = [exUnit] := by rw [U.flat_eq]; show exUnit :: U.flats [] = _; rw [U.flats]
  refine ⟨⟨hf, by rw [hl]; decide⟩, ?_⟩
  rw [hl]
  intro x hx
  simp only [List.mem_singleton] at hx
  subst hx
  exact ⟨by decide, by decide, by decide, by simp [exUnit], by simp [exUnit, exW]⟩
theorem short_I1 : exI1.Shorts := (Itm.Shorts_eq _).2 ⟨⟨(Itm.fit_eq _).2 ⟨by decide, by decide, short_unit.1.1, by decide, by decide, by decide, by simp [exI1]⟩, short_unit, by decide, by decide, by simp [exI1], by simp [exI1], by decide, by decide, by decide, by decide, by decide, by decide⟩, by simp [exI1]⟩
theorem short_I2 : exI2.Shorts := (Itm.Shorts_eq _).2 ⟨⟨(Itm.fit_eq _).2 ⟨by decide, by decide, short_no.1.1, by decide, by decide, by decide, by simp [exI2]⟩, short_no, by decide, by decide, by simp [exI2], by simp [exI2], by decide, by decide, by decide, by decide, by decide, by decide⟩, by simp [exI2]⟩
def exR1 (b : Nat) : List AV := [.int .i64 1, .int .i64 0, .int .i64 0, .int .i64 0, .nil, .nil, .int .i64 1, .int .i64 0, .int .i64 0, .int .i64 0, .int .i64 0, .int .i64 2, .str [53], .nil, .own (some b) 64 4 [[.str [97], .int .i64 0, .int .i64 0, .int .i64 0], [.str [98], .int .i64 0, .int .i64 0, .int .i64 0], [.str [97], .int .i64 0, .int .i64 0, .int .i64 0]], .nil, .nil, .nil, .str [], .str [], .int .i64 0, .int .i64 0, .str [], .int .i64 0, .int .i64 0, .int .i64 0, .str [], .nil]
def exR2 (b c : Nat) : List AV := [.int .i64 2, .int .i64 0, .int .i64 0, .int .i64 2, .lst 2 [[.int .i64 2, .str [53]]], .nil, .int .i64 0, .int .i64 0, .int .i64 0, .int .i64 0, .int .i64 0, .int .i64 0, .str [], .nil, .nil, .nil, .own (some b) 9 1 [[.str [97]]], .own (some c) 9 1 [[.str [99]]], .str [], .str [], .int .i64 0, .int .i64 0, .str [], .int .i64 0, .int .i64 0, .int .i64 0, .str [], .nil]
theorem le_R1 (b : Nat) : LeReps (exR1 b) (Dd.cs ⟨1, 0, 0, exI1⟩) := by
  unfold exR1 Dd.cs
  rw [Itm.cs_eq]
  repeat' first
    | exact LeReps.nil
    | refine LeReps.cons ?_ ?_
  all_goals first | exact LeRep.refl _ | exact LeRep.nil | exact LeRep.own (LeRows.refl _)
theorem le_R2 (b c : Nat) : LeReps (exR2 b c) (Dd.cs ⟨2, 0, 0, exI2⟩) := by
  unfold exR2 Dd.cs
  rw [Itm.cs_eq]
  repeat' first
    | exact LeReps.nil
    | refine LeReps.cons ?_ ?_
  all_goals first | exact LeRep.refl _ | exact LeRep.nil | exact LeRep.own (LeRows.refl _)
theorem le_zU : LeRep (.agg zU) (.agg emptyU.cs) := by
  refine LeRep.agg ?_
  rw [U.cs_eq]
  unfold zU
  repeat' first
    | exact LeReps.nil
    | refine LeReps.cons ?_ ?_
  all_goals first | exact LeRep.refl _ | exact LeRep.nil
def exAV : AV := .tup [.agg [.int .i64 0, .int .i64 0, .int .i64 0, .int .i64 0, .str [], .lst 4 [], .lst 4 [], .lst 8 [[.int .i64 1, .int .i64 0, .int .i64 1, .int .i64 2, .str [53], .lst 4 [], .lst 4 [[.str [99], .int .i64 2, .int .i64 0, .int .i64 0], [.str [98], .int .i64 1, .int .i64 0, .int .i64 1], [.str [99], .int .i64 2, .int .i64 0, .int .i64 1]], .lst 8 []]]], .lst 3 []]
theorem ex_av : allAV (exV, []) = exAV := by kernel_rfl

theorem ex_len1 (s : List UInt8) : ∀ r ∈ [[AV.str s]], r.length = 1 := by
  intro r hr
  simp only [List.mem_singleton] at hr
  subst hr; rfl
theorem sub_one {p : Nat × AObj} {σ : Store} (h : p ∈ σ) : SubN [p] σ := ⟨fun q hq => by simp only [List.mem_singleton] at hq; subst hq; exact h, fun _ => by simp [Store.keys]⟩
theorem ex_len (b c d : Nat) : ∀ r ∈ [exR1 b, exR2 c d], r.length = 28 := by
  intro r hr
  simp only [List.mem_cons, List.not_mem_nil, or_false] at hr
  rcases hr with rfl | rfl <;> rfl
section
variable (G : Glob) (hG : GOk G)
theorem f21 : Pure G Tryz.prog 21 [] (.agg zU) := by
  refine Pure.w c21 fun R hR => ?_
  unfold s21 r21
  (repeat' (first | simp -dsimp -implicitDefEqProofs only [EVz, seval, ↓reduceIte, reduceCtorEq, EV6, EV7] | (with_reducible intro blk hblk; (try (have hnx := hblk; simp only [EVK] at hnx; (have hne := hnx)))) | fail))
  all_goals exact hR _ _ (.inl (.inl rfl))
theorem f32 : Pure G Tryz.prog 32 [] (.lst 2 [[.int .i64 2, .str [53]]]) := by
  refine Pure.w c32 fun R hR => ?_
  unfold s32 r32
  (repeat' (first | simp -dsimp -implicitDefEqProofs only [EVz, seval, ↓reduceIte, reduceCtorEq, EV6, EV7] | (with_reducible intro blk hblk; (try (have hnx := hblk; simp only [EVK] at hnx; (have hne := hnx)))) | (refine ⟨[[.int .i64 2, .str [53]]], rfl, (by simp), rfl, ?_⟩) | fail))
  all_goals exact hR _ _ (.inl (.inr ⟨rfl, rfl⟩))
include hG
theorem ex_call (b c d e : Nat) : Pure G Tryz.prog 17 [.agg zU, .own (some e) 36 28 [exR1 b, exR2 c d]] exAV := by
  have h := f17 G hG emptyU empty_good exDs (by decide) (fun x hx => by
    simp only [exDs, List.mem_cons, List.not_mem_nil, or_false] at hx
    rcases hx with rfl | rfl
    · exact short_I1
    · exact short_I2)
  rw [ex_all, ex_av] at h
  exact h.lr (.cons le_zU (.cons (LeRep.own (.cons (le_R1 b) (.cons (le_R2 c d) .nil))) .nil))
def exWs : List (List AV) := [[.str [97], .int .i64 0, .int .i64 0, .int .i64 0], [.str [98], .int .i64 0, .int .i64 0, .int .i64 0], [.str [97], .int .i64 0, .int .i64 0, .int .i64 0]]
def exRoot : List AV := [.int .i64 0, .int .i64 0, .int .i64 0, .int .i64 0, .str [], .lst 4 [], .lst 4 [], .lst 8 [[.int .i64 1, .int .i64 0, .int .i64 1, .int .i64 2, .str [53], .lst 4 [], .lst 4 [[.str [99], .int .i64 2, .int .i64 0, .int .i64 0], [.str [98], .int .i64 1, .int .i64 0, .int .i64 1], [.str [99], .int .i64 2, .int .i64 0, .int .i64 1]], .lst 8 []]]]
set_option maxHeartbeats 4000000 in
theorem f10 : Pure G Tryz.prog 10 [] (.bool true) := by
  have hA := ex_call G hG
  have hE := f21 G
  unfold zU at hE
  have hS := f32 G
  unfold exAV zU at hA
  refine Pure.w c10g fun R hR => ?_
  unfold s10g r10g
  refine W_tail3 (fun Y hY => ?_)
  refine W_tail2 (fun Z hZ => ?_)
  have hrest : ∀ b, W G Tryz.prog Y (retQ [(0, none)] R) [(2, .sc (.pointer (some ⟨b, 0, none⟩))), (3, .lst 3 [])] [(b, .cells 27 exRoot)] ⟨⟩ := by
    intro b
    clear hZ
    subst hY
    unfold exRoot
    (repeat' (first | (with_reducible (refine gd_case (fun h => ?_) (fun h => ?_)) <;> (try simp only [Da, Db, Dc, Dw, De, Df, Dg, Dh] at h)) | simp -dsimp -implicitDefEqProofs only [EVz, seval, ↓reduceIte, reduceCtorEq, EV6, EV7] | fail))
    all_goals first
      | exact hR _ _ (.inl (.inl rfl))
      | (exfalso; revert h; decide)
      | trace_state
  clear hY
  (try simp -dsimp -implicitDefEqProofs only [EVz, seval, ↓reduceIte, reduceCtorEq, EV6, EV7])
  intro b8 hb8
  refine ⟨exWs, rfl, (by simp [exWs]), rfl, ?_⟩
  unfold exWs
  (try simp -dsimp -implicitDefEqProofs only [EVz, seval, ↓reduceIte, reduceCtorEq, EV6, EV7])
  intro b1 hb1
  (try simp -dsimp -implicitDefEqProofs only [EVz, seval, ↓reduceIte, reduceCtorEq, EV6, EV7])
  refine ⟨_, _, Weak.refz (j := 1) rfl, ?_⟩
  (try simp -dsimp -implicitDefEqProofs only [EVz, seval, ↓reduceIte, reduceCtorEq, EV6, EV7])
  subst hZ
  refine W_seq0 (W_drawT0 ?_)
  repeat' (first
    | (with_reducible refine both_case ?_ ?_)
    | (with_reducible refine CALL_pure hE ?_)
    | (with_reducible refine CALL_pure hS ?_)
    | (with_reducible refine CALL_pure (hA _ _ _ _) ?_)
    | simp -dsimp -implicitDefEqProofs only [EVz, seval, ↓reduceIte, reduceCtorEq, EV6, EV7, hne]
    | simp -dsimp -implicitDefEqProofs only [EVz, seval, ↓reduceIte, reduceCtorEq, EV6, EV7]
    | (with_reducible intro blk hblk; (try (have hnx := hblk; simp only [EVK] at hnx; first | (have hne := And.intro hnx hne) | (have hne := hnx))))
    | (refine ⟨[[.str [97]]], rfl, ex_len1 _, rfl, ?_⟩)
    | (refine ⟨[[.str [99]]], rfl, ex_len1 _, rfl, ?_⟩)
    | (refine ⟨[exR1 _, exR2 _ _], rfl, ex_len _ _ _, rfl, ?_⟩)
    | (refine ⟨_, _, Weak.sub (sub_one ?_), hrest _⟩)
    | exact List.mem_cons_self
    | (with_reducible refine List.mem_cons_of_mem _ ?_))
end
end Go.Av
end

section
namespace Go.Av
open Go Go.RowKit Go.Proofs
set_option linter.unusedSimpArgs false
set_option linter.unusedVariables false

section
variable (G : Glob) (hG : GOk G)
include hG
end
end Go.Av
end
