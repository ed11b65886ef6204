/-
  LINT, 2: the small functions of the reference and of the program.
-/
import Derived.Test.YtedcgagodcfgmaaGreatDoorXC1
import Derived.Test.YtedcgagodcfgmaaGreatDoorXC2
import Derived.Test.YtedcgagodcfgmaaGreatDoorXC3
section
namespace Go.Av
open Go Go.RowKit Go.Proofs
set_option linter.unusedSimpArgs false
set_option linter.unusedVariables false

def isBook (p : List Stp) : Bool := decide (p = []) || decide (p = [⟨0, []⟩])
def inR (n lo hi : Int) : Bool := decide (lo ≤ n) && decide (n ≤ hi)
def nests (p k : Int) : Bool :=
  if p = 0 then decide (k = 1) || decide (k = 2) else if p = 1 then decide (k = 2) else if p = 2 ∨ p = 3 then decide (k = 3) || decide (k = 4) || decide (k = 7) else if p = 4 then decide (k = 5) else if p = 5 then decide (k = 6) else false

section
variable (G : Glob)

theorem f45 (n lo hi : Int) : Pure G Tryz.prog 45 [.int .i64 n, .int .i64 lo, .int .i64 hi] (.bool (inR n lo hi)) := by
  refine Pure.w c45 fun R hR => ?_
  unfold s45 r45
  (repeat' (first | (with_reducible (refine gd_case (fun h => ?_) (fun h => ?_)) <;> (try simp only [Da, Db, Dc, Dd, De, Df, Dg, Dh] at h)) | simp -dsimp -implicitDefEqProofs only [EV1, EV2, EV3, EV4, EV5, seval, ↓reduceIte, reduceCtorEq, eq_self, Option.map_some, decide_true, decide_false, EV6, EV7]))
  (all_goals (((refine RET.eq hR ?_; (refine congrArg AV.bool (Bool.eq_iff_iff.2 ?_); simp only [inR, EVB] at *; omega)))))

theorem f137 (n lo hi : Int) : Pure G Tryz.prog 137 [.int .i64 n, .int .i64 lo, .int .i64 hi] (.bool (inR n lo hi)) := by
  refine Pure.w c137 fun R hR => ?_
  unfold s137 r137
  (repeat' (first | (with_reducible (refine gd_case (fun h => ?_) (fun h => ?_)) <;> (try simp only [Da, Db, Dc, Dd, De, Df, Dg, Dh] at h)) | simp -dsimp -implicitDefEqProofs only [EV1, EV2, EV3, EV4, EV5, seval, ↓reduceIte, reduceCtorEq, eq_self, Option.map_some, decide_true, decide_false, EV6, EV7]))
  (all_goals (((refine RET.eq hR ?_; (refine congrArg AV.bool (Bool.eq_iff_iff.2 ?_); simp only [inR, EVB] at *; omega)))))

theorem f35 (p k : Int) : Pure G Tryz.prog 35 [.int .i64 p, .int .i64 k] (.bool (nests p k)) := by
  refine Pure.w c35 fun R hR => ?_
  unfold s35 r35
  (repeat' (first | (with_reducible (first | refine split_case (fun h => ?_) (fun h => ?_) | refine gd_case (fun h => ?_) (fun h => ?_)) <;> (try simp only [Da, Db, Dc, Dd, De, Df, Dg, Dh] at h)) | simp -dsimp -implicitDefEqProofs only [EV1, EV2, EV3, EV4, EV5, seval, ↓reduceIte, reduceCtorEq, eq_self, Option.map_some, decide_true, decide_false, EV6, EV7] | (exfalso; omega)))
  (all_goals (((refine RET.eq hR ?_; ((simp_all [nests]; done))))))

theorem f217 (p k : Int) : Pure G Tryz.prog 217 [.int .i64 p, .int .i64 k] (.bool (nests p k)) := by
  refine Pure.w c217 fun R hR => ?_
  unfold s217 r217
  (repeat' (first | (with_reducible (first | refine split_case (fun h => ?_) (fun h => ?_) | refine gd_case (fun h => ?_) (fun h => ?_)) <;> (try simp only [Da, Db, Dc, Dd, De, Df, Dg, Dh] at h)) | simp -dsimp -implicitDefEqProofs only [EV1, EV2, EV3, EV4, EV5, seval, ↓reduceIte, reduceCtorEq, eq_self, Option.map_some, decide_true, decide_false, EV6, EV7]))
  (all_goals (((refine RET.eq hR ?_; ((simp_all [nests]; done))))))

end
end Go.Av
end

section
namespace Go.Av
open Go Go.RowKit Go.Proofs
set_option linter.unusedSimpArgs false
set_option linter.unusedVariables false

def iz : Itm := ⟨0, [], [], 0, 0, ⟨⟨0, 0, 0⟩, 0, [], [], [], []⟩, [], [], [], [], ⟨0, 0, []⟩, 0, 0, 0, [], []⟩
/-- The last step of an address; the book's, where it is the book. -/
def lastStp (p : List Stp) : Stp := if isBook p then ⟨0, []⟩ else p.getLastD ⟨0, []⟩

theorem last_row (p : List Stp) (h : p ≠ []) : (p.map Stp.cs).getD (p.length - 1) [] = [.int .i64 (p.getLastD ⟨0, []⟩).kind, .str (p.getLastD ⟨0, []⟩).label] := by
  have hl : 0 < p.length := List.length_pos_iff.2 h
  rw [List.getLastD_eq_getLast?, List.getLast?_eq_getElem?]
  simp [List.getD, show p.length - 1 < p.length by omega, Stp.cs]
theorem not_book_ne {p : List Stp} (h : isBook p = false) : p ≠ [] := by
  rintro rfl; simp [isBook] at h

section
variable (G : Glob)

theorem f70 (k : Int) : Pure G Tryz.prog 70 [.int .i64 k] (.bool (inR k 0 6)) := by
  refine Pure.w c70 fun R hR => ?_
  unfold s70 r70
  (repeat' (first | (with_reducible (refine gd_case (fun h => ?_) (fun h => ?_)) <;> (try simp only [Da, Db, Dc, Dd, De, Df, Dg, Dh] at h)) | simp -dsimp -implicitDefEqProofs only [EV1, EV2, EV3, EV4, EV5, seval, ↓reduceIte, reduceCtorEq, eq_self, Option.map_some, decide_true, decide_false, EV6, EV7]))
  (all_goals (((refine RET.eq hR ?_; (refine congrArg AV.bool (Bool.eq_iff_iff.2 ?_); simp only [inR, EVB] at *; omega)))))
theorem f94 (k : Int) : Pure G Tryz.prog 94 [.int .i64 k] (.bool (decide (k = 7) || decide (k = 8) || decide (k = 9) || decide (k = 11))) := by
  refine Pure.w c94 fun R hR => ?_
  unfold s94 r94
  (repeat' (first | (with_reducible (refine gd_case (fun h => ?_) (fun h => ?_)) <;> (try simp only [Da, Db, Dc, Dd, De, Df, Dg, Dh] at h)) | simp -dsimp -implicitDefEqProofs only [EV1, EV2, EV3, EV4, EV5, seval, ↓reduceIte, reduceCtorEq, eq_self, Option.map_some, decide_true, decide_false, EV6, EV7]))
  (all_goals (((refine RET.eq hR ?_; (refine congrArg AV.bool (Bool.eq_iff_iff.2 ?_); simp only [EVB] at *; omega)))))
theorem f88 (k : Int) : Pure G Tryz.prog 88 [.int .i64 k] (.bool (inR k 0 1048576)) := by
  refine Pure.w c88 fun R hR => ?_
  unfold s88 r88
  (repeat' (first | (with_reducible (refine gd_case (fun h => ?_) (fun h => ?_)) <;> (try simp only [Da, Db, Dc, Dd, De, Df, Dg, Dh] at h)) | simp -dsimp -implicitDefEqProofs only [EV1, EV2, EV3, EV4, EV5, seval, ↓reduceIte, reduceCtorEq, eq_self, Option.map_some, decide_true, decide_false, EV6, EV7]))
  (all_goals (((refine RET.eq hR ?_; (refine congrArg AV.bool (Bool.eq_iff_iff.2 ?_); simp only [inR, EVB] at *; omega)))))
theorem f99 (k : Int) (l : List UInt8) : Pure G Tryz.prog 99 [.agg [.int .i64 k, .str l]] (.bool (decide (k = 0) && decide (l = []))) := by
  refine Pure.w c99 fun R hR => ?_
  unfold s99 r99
  (repeat' (first | (with_reducible (refine gd_case (fun h => ?_) (fun h => ?_)) <;> (try simp only [Da, Db, Dc, Dd, De, Df, Dg, Dh] at h)) | simp -dsimp -implicitDefEqProofs only [EV1, EV2, EV3, EV4, EV5, seval, ↓reduceIte, reduceCtorEq, eq_self, Option.map_some, decide_true, decide_false, EV6, EV7]))
  (all_goals (first | (refine RET.eq hR ?_; (refine congrArg AV.bool (Bool.eq_iff_iff.2 ?_); simp only [EVB] at *; omega)) | (refine RET.eq hR ?_; ((simp_all []; done)))))
theorem f141 (k : Int) (l : List UInt8) : Pure G Tryz.prog 141 [.agg [.int .i64 k, .str l]] (.bool (decide (k = 0) && decide (l = []))) := by
  refine Pure.w c141 fun R hR => ?_
  unfold s141 r141
  (repeat' (first | (with_reducible (refine gd_case (fun h => ?_) (fun h => ?_)) <;> (try simp only [Da, Db, Dc, Dd, De, Df, Dg, Dh] at h)) | simp -dsimp -implicitDefEqProofs only [EV1, EV2, EV3, EV4, EV5, seval, ↓reduceIte, reduceCtorEq, eq_self, Option.map_some, decide_true, decide_false, EV6, EV7]))
  (all_goals (first | (refine RET.eq hR ?_; (refine congrArg AV.bool (Bool.eq_iff_iff.2 ?_); simp only [EVB] at *; omega)) | (refine RET.eq hR ?_; ((simp_all []; done)))))
theorem f118 (k : Int) : Pure G Tryz.prog 118 [.int .i64 k] (.bool (inR k 0 3)) := by
  refine Pure.w c118 fun R hR => ?_
  unfold s118 r118
  (repeat' (first | (with_reducible refine CALL_pure (f137 G _ _ _) ?_) | simp -dsimp -implicitDefEqProofs only [EV1, EV2, EV3, EV4, EV5, seval, ↓reduceIte, reduceCtorEq, eq_self, Option.map_some, decide_true, decide_false, EV6, EV7]))
  (all_goals ((exact RET.eq hR rfl)))
theorem f125 (x : Itm) : Pure G Tryz.prog 125 [.agg x.cs] (.bool (inR x.nth 0 256)) := by
  refine Pure.w c125 fun R hR => ?_
  unfold s125 r125
  (repeat' (first | (with_reducible refine CALL_pure (f137 G _ _ _) ?_) | simp -dsimp -implicitDefEqProofs only [EV1, EV2, EV3, EV4, EV5, seval, ↓reduceIte, reduceCtorEq, eq_self, Option.map_some, decide_true, decide_false, EV6, EV7]))
  (all_goals ((exact RET.eq hR rfl)))
theorem f140 (x : Itm) (n : Int) : Pure G Tryz.prog 140 [.agg x.cs, .int .i64 n] (.bool (inR x.act 1 1048576 && inR x.item n 31)) := by
  refine Pure.w c140 fun R hR => ?_
  unfold s140 r140
  (repeat' (first | (with_reducible (refine gd_case (fun h => ?_) (fun h => ?_)) <;> (try simp only [Da, Db, Dc, Dd, De, Df, Dg, Dh] at h)) | (with_reducible refine CALL_pure (f137 G _ _ _) ?_) | simp -dsimp -implicitDefEqProofs only [EV1, EV2, EV3, EV4, EV5, seval, ↓reduceIte, reduceCtorEq, eq_self, Option.map_some, decide_true, decide_false, EV6, EV7]))
  (all_goals (((refine RET.eq hR ?_; ((simp_all []; done))))))
theorem f76 (x : Itm) : Pure G Tryz.prog 76 [.agg x.cs] (.bool (decide (x.wh = 2) || decide (x.wh = 3))) := by
  refine Pure.w c76 fun R hR => ?_
  unfold s76 r76
  (repeat' (first | (with_reducible (refine gd_case (fun h => ?_) (fun h => ?_)) <;> (try simp only [Da, Db, Dc, Dd, De, Df, Dg, Dh] at h)) | simp -dsimp -implicitDefEqProofs only [EV1, EV2, EV3, EV4, EV5, seval, ↓reduceIte, reduceCtorEq, eq_self, Option.map_some, decide_true, decide_false, EV6, EV7]))
  (all_goals (((refine RET.eq hR ?_; (refine congrArg AV.bool (Bool.eq_iff_iff.2 ?_); simp only [EVB] at *; omega)))))
theorem f78 (x : Itm) (k : Int) : Pure G Tryz.prog 78 [.agg x.cs, .int .i64 k] (.bool (decide (x.kind = k) && !(decide (x.wh = 2) || decide (x.wh = 3)))) := by
  refine Pure.w c78 fun R hR => ?_
  unfold s78 r78
  (repeat' (first | (with_reducible (refine gd_case (fun h => ?_) (fun h => ?_)) <;> (try simp only [Da, Db, Dc, Dd, De, Df, Dg, Dh] at h)) | (with_reducible refine CALL_pure (f76 G _) ?_) | simp -dsimp -implicitDefEqProofs only [EV1, EV2, EV3, EV4, EV5, seval, ↓reduceIte, reduceCtorEq, eq_self, Option.map_some, decide_true, decide_false, EV6, EV7]))
  (all_goals (((refine RET.eq hR ?_; (refine congrArg AV.bool (Bool.eq_iff_iff.2 ?_); simp only [EVB] at *; omega)))))
theorem f75 (p : List Stp) : Pure G Tryz.prog 75 [.lst 2 (p.map Stp.cs)] (.bool (isBook p)) := by
  refine Pure.w c75 fun R hR => ?_
  unfold s75 r75
  match p with
  | [] =>
    (repeat' (simp -dsimp -implicitDefEqProofs only [EV1, EV2, EV3, EV4, EV5, seval, ↓reduceIte, reduceCtorEq, eq_self, Option.map_some, decide_true, decide_false, EV6, EV7]))
    (all_goals ((exact RET.eq hR rfl)))
  | [x] =>
    obtain ⟨k, l⟩ := x
    (repeat' (simp -dsimp -implicitDefEqProofs only [EV1, EV2, EV3, EV4, EV5, seval, ↓reduceIte, reduceCtorEq, eq_self, Option.map_some, decide_true, decide_false, EV6, EV7]))
    (all_goals (((refine RET.eq hR ?_; ((simp_all [isBook]; done))))))
  | x :: y :: r =>
    (repeat' (first | (with_reducible (refine gd_case (fun h => ?_) (fun h => ?_)) <;> (try simp only [Da, Db, Dc, Dd, De, Df, Dg, Dh] at h)) | (with_reducible refine And.intro (by omega) ?_) | simp -dsimp -implicitDefEqProofs only [EV1, EV2, EV3, EV4, EV5, seval, ↓reduceIte, reduceCtorEq, eq_self, Option.map_some, decide_true, decide_false, EV6, EV7] | (exfalso; omega)))
    (all_goals (((refine RET.eq hR ?_; ((simp_all [isBook]; done))))))

theorem f80 (p : List Stp) (hp : p.length < 1000000) : Pure G Tryz.prog 80 [.lst 2 (p.map Stp.cs)] (.agg (Stp.cs (lastStp p))) := by
  refine Pure.w c80 fun R hR => ?_
  unfold s80 r80
  cases hb : isBook p with
  | true =>
    (repeat' (first | (with_reducible refine CALL_pure (f75 G _) ?_) | simp -dsimp -implicitDefEqProofs only [EV1, EV2, EV3, EV4, EV5, seval, ↓reduceIte, reduceCtorEq, eq_self, Option.map_some, decide_true, decide_false, EV6, EV7, hb] | (with_reducible intro blk hblk; (try (have hnx := hblk; simp only [EVK] at hnx; (have hne := hnx))))))
    (all_goals (((refine RET.eq hR ?_; ((simp_all [lastStp, Stp.cs]; done))))))
  | false =>
    have hn := not_book_ne hb
    have hl : 0 < p.length := List.length_pos_iff.2 hn
    have hw : IntKind.i64.wrap ((p.length : Int) - 1) = ((p.length - 1 : Nat) : Int) := by rw [wrap_i64 (by omega) (by omega)]; omega
    (repeat' (first | (with_reducible refine And.intro (by omega) ?_) | (with_reducible refine CALL_pure (f75 G _) ?_) | simp -dsimp -implicitDefEqProofs only [EV1, EV2, EV3, EV4, EV5, seval, ↓reduceIte, reduceCtorEq, eq_self, Option.map_some, decide_true, decide_false, EV6, EV7, hb, hw, last_row p hn] | (with_reducible intro blk hblk; (try (have hnx := hblk; simp only [EVK] at hnx; (have hne := hnx))))))
    (all_goals (((refine RET.eq hR ?_; ((simp_all [lastStp, Stp.cs]; done))))))

theorem f116 (x : Itm) : Pure G Tryz.prog 116 [.agg x.cs] (.agg (Itm.cs { iz with wh := x.wh, unit := x.unit })) := by
  refine Pure.w c116 fun R hR => ?_
  unfold s116 r116
  (repeat' (first | simp -dsimp -implicitDefEqProofs only [EV1, EV2, EV3, EV4, EV5, seval, ↓reduceIte, reduceCtorEq, eq_self, Option.map_some, decide_true, decide_false, EV6, EV7] | (with_reducible intro blk hblk; (try (have hnx := hblk; simp only [EVK] at hnx; (have hne := hnx))))))
  (all_goals (((refine hR _ _ (Or.inr ?_); simp [*, AVleL, AVle1, Itm.cs_eq, U.cs_eq, iz]; done))))
theorem f120 (x : Itm) : Pure G Tryz.prog 120 [.agg x.cs] (.agg (Itm.cs iz)) := by
  refine Pure.w c120 fun R hR => ?_
  unfold s120 r120
  (repeat' (first | simp -dsimp -implicitDefEqProofs only [EV1, EV2, EV3, EV4, EV5, seval, ↓reduceIte, reduceCtorEq, eq_self, Option.map_some, decide_true, decide_false, EV6, EV7] | (with_reducible intro blk hblk; (try (have hnx := hblk; simp only [EVK] at hnx; (have hne := hnx))))))
  (all_goals (((refine hR _ _ (Or.inr ?_); simp [*, AVleL, AVle1, Itm.cs_eq, U.cs_eq, iz]; done))))
theorem f121 (x : Itm) : Pure G Tryz.prog 121 [.agg x.cs] (.bool true) := by
  refine Pure.w c121 fun R hR => ?_
  unfold s121 r121
  (repeat' (simp -dsimp -implicitDefEqProofs only [EV1, EV2, EV3, EV4, EV5, seval, ↓reduceIte, reduceCtorEq, eq_self, Option.map_some, decide_true, decide_false, EV6, EV7]))
  (all_goals ((exact RET.eq hR rfl)))
theorem f122 (x : Itm) : Pure G Tryz.prog 122 [.agg x.cs] (.agg (Itm.cs { iz with old := x.old, new := x.new, nth := x.nth })) := by
  refine Pure.w c122 fun R hR => ?_
  unfold s122 r122
  (repeat' (first | simp -dsimp -implicitDefEqProofs only [EV1, EV2, EV3, EV4, EV5, seval, ↓reduceIte, reduceCtorEq, eq_self, Option.map_some, decide_true, decide_false, EV6, EV7] | (with_reducible intro blk hblk; (try (have hnx := hblk; simp only [EVK] at hnx; (have hne := hnx))))))
  (all_goals (((refine hR _ _ (Or.inr ?_); simp [*, AVleL, AVle1, Itm.cs_eq, U.cs_eq, iz]; done))))
theorem f126 (x : Itm) : Pure G Tryz.prog 126 [.agg x.cs] (.agg (Itm.cs { iz with old := x.old, new := x.new, nth := x.nth })) := by
  refine Pure.w c126 fun R hR => ?_
  unfold s126 r126
  (repeat' (first | simp -dsimp -implicitDefEqProofs only [EV1, EV2, EV3, EV4, EV5, seval, ↓reduceIte, reduceCtorEq, eq_self, Option.map_some, decide_true, decide_false, EV6, EV7] | (with_reducible intro blk hblk; (try (have hnx := hblk; simp only [EVK] at hnx; (have hne := hnx))))))
  (all_goals (((refine hR _ _ (Or.inr ?_); simp [*, AVleL, AVle1, Itm.cs_eq, U.cs_eq, iz]; done))))
theorem f128 (x : Itm) : Pure G Tryz.prog 128 [.agg x.cs] (.agg (Itm.cs { iz with new := x.new })) := by
  refine Pure.w c128 fun R hR => ?_
  unfold s128 r128
  (repeat' (first | simp -dsimp -implicitDefEqProofs only [EV1, EV2, EV3, EV4, EV5, seval, ↓reduceIte, reduceCtorEq, eq_self, Option.map_some, decide_true, decide_false, EV6, EV7] | (with_reducible intro blk hblk; (try (have hnx := hblk; simp only [EVK] at hnx; (have hne := hnx))))))
  (all_goals (((refine hR _ _ (Or.inr ?_); simp [*, AVleL, AVle1, Itm.cs_eq, U.cs_eq, iz]; done))))
theorem f130 (x : Itm) : Pure G Tryz.prog 130 [.agg x.cs] (.agg (Itm.cs { iz with label := x.label })) := by
  refine Pure.w c130 fun R hR => ?_
  unfold s130 r130
  (repeat' (first | simp -dsimp -implicitDefEqProofs only [EV1, EV2, EV3, EV4, EV5, seval, ↓reduceIte, reduceCtorEq, eq_self, Option.map_some, decide_true, decide_false, EV6, EV7] | (with_reducible intro blk hblk; (try (have hnx := hblk; simp only [EVK] at hnx; (have hne := hnx))))))
  (all_goals (((refine hR _ _ (Or.inr ?_); simp [*, AVleL, AVle1, Itm.cs_eq, U.cs_eq, iz]; done))))
theorem f133 (x : Itm) : Pure G Tryz.prog 133 [.agg x.cs] (.agg (Itm.cs { iz with to_ := x.to_, wh := x.wh })) := by
  refine Pure.w c133 fun R hR => ?_
  unfold s133 r133
  (repeat' (first | simp -dsimp -implicitDefEqProofs only [EV1, EV2, EV3, EV4, EV5, seval, ↓reduceIte, reduceCtorEq, eq_self, Option.map_some, decide_true, decide_false, EV6, EV7] | (with_reducible intro blk hblk; (try (have hnx := hblk; simp only [EVK] at hnx; (have hne := hnx))))))
  (all_goals (((refine hR _ _ (Or.inr ?_); simp [*, AVleL, AVle1, Itm.cs_eq, U.cs_eq, iz]; done))))
theorem f135 (x : Itm) : Pure G Tryz.prog 135 [.agg x.cs] (.agg (Itm.cs { iz with event := x.event, day := x.day })) := by
  refine Pure.w c135 fun R hR => ?_
  unfold s135 r135
  (repeat' (first | simp -dsimp -implicitDefEqProofs only [EV1, EV2, EV3, EV4, EV5, seval, ↓reduceIte, reduceCtorEq, eq_self, Option.map_some, decide_true, decide_false, EV6, EV7] | (with_reducible intro blk hblk; (try (have hnx := hblk; simp only [EVK] at hnx; (have hne := hnx))))))
  (all_goals (((refine hR _ _ (Or.inr ?_); simp [*, AVleL, AVle1, Itm.cs_eq, U.cs_eq, iz]; done))))
theorem f138 (x : Itm) : Pure G Tryz.prog 138 [.agg x.cs] (.agg (Itm.cs { iz with act := x.act, item := x.item, by_ := x.by_ })) := by
  refine Pure.w c138 fun R hR => ?_
  unfold s138 r138
  (repeat' (first | simp -dsimp -implicitDefEqProofs only [EV1, EV2, EV3, EV4, EV5, seval, ↓reduceIte, reduceCtorEq, eq_self, Option.map_some, decide_true, decide_false, EV6, EV7] | (with_reducible intro blk hblk; (try (have hnx := hblk; simp only [EVK] at hnx; (have hne := hnx))))))
  (all_goals (((refine hR _ _ (Or.inr ?_); simp [*, AVleL, AVle1, Itm.cs_eq, U.cs_eq, iz]; done))))
theorem f365 (x : Itm) : Pure G Tryz.prog 365 [.agg x.cs] (.agg (Itm.cs { iz with act := x.act, item := x.item, day := x.day })) := by
  refine Pure.w c365 fun R hR => ?_
  unfold s365 r365
  (repeat' (first | simp -dsimp -implicitDefEqProofs only [EV1, EV2, EV3, EV4, EV5, seval, ↓reduceIte, reduceCtorEq, eq_self, Option.map_some, decide_true, decide_false, EV6, EV7] | (with_reducible intro blk hblk; (try (have hnx := hblk; simp only [EVK] at hnx; (have hne := hnx))))))
  (all_goals (((refine hR _ _ (Or.inr ?_); simp [*, AVleL, AVle1, Itm.cs_eq, U.cs_eq, iz]; done))))
theorem f366 (x : Itm) : Pure G Tryz.prog 366 [.agg x.cs] (.bool (inR x.act 1 1048576 && inR x.item (-1) 31 && inR x.day 0 1048576)) := by
  refine Pure.w c366 fun R hR => ?_
  unfold s366 r366
  (repeat' (first | (with_reducible (refine gd_case (fun h => ?_) (fun h => ?_)) <;> (try simp only [Da, Db, Dc, Dd, De, Df, Dg, Dh] at h)) | (with_reducible refine CALL_pure (f140 G _ _) ?_) | (with_reducible refine CALL_pure (f137 G _ _ _) ?_) | simp -dsimp -implicitDefEqProofs only [EV1, EV2, EV3, EV4, EV5, seval, ↓reduceIte, reduceCtorEq, eq_self, Option.map_some, decide_true, decide_false, EV6, EV7]))
  (all_goals (((refine RET.eq hR ?_; ((simp_all []; done))))))
end
end Go.Av
end

section
namespace Go.Av
open Go Go.RowKit Go.Proofs
set_option linter.unusedSimpArgs false
set_option linter.unusedVariables false

def okCh (c : UInt8) : Bool := decide ((33 : Int) ≤ c.toNat) && decide ((c.toNat : Int) ≤ 126)
def wordOk (s : List UInt8) : Bool := decide ((1 : Int) ≤ s.length) && (decide ((s.length : Int) ≤ 24) && s.all okCh)

section
variable (G : Glob)

theorem f150 (s : List UInt8) : Pure G Tryz.prog 150 [.str s] (.bool (wordOk s)) := by
  refine Pure.w c150 fun R hR => ?_
  unfold s150 r150
  (repeat' (first | (with_reducible (first | refine split_case (fun h => ?_) (fun h => ?_) | refine gd_case (fun h => ?_) (fun h => ?_)) <;> (try simp only [Da, Db, Dc, Dd, De, Df, Dg, Dh] at h)) | simp -dsimp -implicitDefEqProofs only [EV1, EV2, EV3, EV4, EV5, seval, ↓reduceIte, reduceCtorEq, eq_self, Option.map_some, decide_true, decide_false, EV6, EV7, hx.yes, hx.le0, hx.lt', hx.get, hx.row, hw] | simp -dsimp -implicitDefEqProofs only [EV1, EV2, EV3, EV4, EV5, seval, ↓reduceIte, reduceCtorEq, eq_self, Option.map_some, decide_true, decide_false, EV6, EV7, hn] | simp -dsimp -implicitDefEqProofs only [EV1, EV2, EV3, EV4, EV5, seval, ↓reduceIte, reduceCtorEq, eq_self, Option.map_some, decide_true, decide_false, EV6, EV7] | (refine LK_next hx () ?_ (Weak.rfl' _ _)) | (refine W_list (s) (fun i r (c : Unit) => s.all okCh = r.all okCh) (fun i c => [(0, .str s), (3, .int .i64 i)]) (fun _ _ => []) () (by rfl) (Weak.rfl' _ _) (by omega) (fun i x r c hok hx hw => ?_) (fun c hok hn => ?_) )))
  (all_goals (first | (refine RET.eq hR ?_; (refine congrArg AV.bool (Bool.eq_iff_iff.2 ?_); simp only [wordOk, okCh, EVB] at *; omega)) | (refine RET.eq hR ?_; first | (simp_all [wordOk, okCh]; done) | (simp_all [wordOk, okCh]; omega)) | (simp_all [wordOk, okCh]; done)))
end
end Go.Av
end
