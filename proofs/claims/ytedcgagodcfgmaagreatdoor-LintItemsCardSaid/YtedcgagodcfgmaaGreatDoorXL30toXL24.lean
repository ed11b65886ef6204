/-
  LINT, 30: the program's lines and texts of trees.
-/
import Derived.Test.YtedcgagodcfgmaaGreatDoorXP1toXL28
import Derived.Test.YtedcgagodcfgmaaGreatDoorXL20toXAv27
section
namespace Go.Av
open Go Go.RowKit Go.Proofs
set_option linter.unusedSimpArgs false
set_option linter.unusedVariables false

theorem app_rowX {e : TypeId} {sz bytes n m m' : Nat} {τ : Store} (κ : Store) {g : Option Nat} {rows : List (List AV)} {cs : List AV} {K : AV → Store → Prop} {b k1 : Nat} (hτ : τ = κ ++ tokS g e m) (hg : ∀ d, g = some d → d ∉ κ.keys) (hr : rows.length = n) (hm : m = n * sz)
    (hm' : m' = (n + 1) * sz) (hl : cs.length = sz) (hb : b ∉ τ.keys) (hn : (n + 1) * bytes ≤ 140737488355328) (hk : ∀ g', (∀ d, g' = some d → d ∉ κ.keys) → K (.own g' e sz (rows ++ [cs])) (κ ++ tokS g' e m')) :
    appX e sz bytes ((b, .tok e k1) :: τ) g rows [cs] K := by
  obtain ⟨rs, h1, h2, h3, h4⟩ := app_rowK (K := fun _ => K) (k1 := k1) κ hτ hg hr hm hm' hl hb hn hk
  obtain ⟨r, rfl⟩ := List.length_eq_one_iff.1 h1
  simp only [List.flatten_cons, List.flatten_nil, List.append_nil] at h3
  subst h3
  exact h4

section
variable (G : Glob)
theorem v_clo2 {k : Nat} {b c : Nat} {args : List AV} {σ : Store} {R : AV → Store → Prop} (h : FnSpec G Tryz.prog k (args ++ [.sc (.pointer (some ⟨b, 0, none⟩)), .sc (.pointer (some ⟨c, 0, none⟩))]) σ R) : VSpec G Tryz.prog (.func (.func k) #[] #[.pointer (some ⟨b, 0, none⟩), .pointer (some ⟨c, 0, none⟩)]) args σ R :=
  ⟨k, #[], #[.pointer (some ⟨b, 0, none⟩), .pointer (some ⟨c, 0, none⟩)], rfl, by simpa [AV.ofValue, AV.ofOne] using h⟩
end

theorem join_lines : ∀ l : List (List UInt8), l ≠ [] → Lib.join l [10] ++ [10] = l.flatMap fun s => s ++ [10]
  | [], h => absurd rfl h
  | [s], _ => by simp [Lib.join, List.intercalate]
  | s :: t :: l, _ => by
    have ih := join_lines (t :: l) (by simp)
    have e : Lib.join (s :: t :: l) [10] = s ++ ([10] ++ Lib.join (t :: l) [10]) := by simp [Lib.join, List.intercalate]
    rw [e, List.flatMap_cons, ← ih]
    simp

theorem textT_len (u : U) (hc : u.flat.length < 1000000) : (textT u).length ≤ 20001000000 := by
  have h1 := U.lines_len u 0
  have h2 := lines_short u 0
  unfold textT
  have key : ∀ l : List (List UInt8), (∀ s ∈ l, s.length ≤ 20000) → (l.flatMap fun s => s ++ [10]).length ≤ l.length * 20001 := by
    intro l
    induction l with
    | nil => intro _; simp
    | cons s l ih =>
      intro h
      have h3 := h s (by simp)
      have h4 := ih fun t ht => h t (by simp [ht])
      simp only [List.flatMap_cons, List.length_append, List.length_cons, List.length_nil] at *
      omega
  have := key _ h2
  omega

/-- The lines so far, in a cell; the function that calls itself, in another. -/
def LnSt (bo be : Nat) (g : Option Nat) (v : AV) (n : Nat) : Store := (be, .cells 241 [.sc (.func (.func 283) #[] #[.pointer (some ⟨bo, 0, none⟩), .pointer (some ⟨be, 0, none⟩)])]) :: (bo, .cells 29 [v]) :: tokS g 9 n
def LnOk (bo be : Nat) (g : Option Nat) (v : AV) (rows : List (List UInt8)) : Prop := (v = .own g 9 1 (rows.map srow) ∨ v = .nil ∧ g = none ∧ rows = []) ∧ (∀ d, g = some d → d ≠ bo ∧ d ≠ be) ∧ be ≠ bo

section
variable (G : Glob) (hG : GOk G)
include hG
set_option maxHeartbeats 2000000 in
theorem f283 : ∀ (u : U) (n : Nat), u.Short → n + u.flat.length ≤ 1000000 → ∀ (bo be : Nat) (g : Option Nat) (v : AV) (rows : List (List UInt8)), LnOk bo be g v rows → rows.length + u.flat.length ≤ 1000000 →
    FnSpec G Tryz.prog 283 [.agg u.cs, .int .i64 n, .sc (.pointer (some ⟨bo, 0, none⟩)), .sc (.pointer (some ⟨be, 0, none⟩))] (LnSt bo be g v rows.length)
      (fun r σ' => r = .tup [] ∧ ∃ g', LnOk bo be g' (.own g' 9 1 ((rows ++ u.lines n).map srow)) (rows ++ u.lines n) ∧ σ' = LnSt bo be g' (.own g' 9 1 ((rows ++ u.lines n).map srow)) (rows ++ u.lines n).length) := by
  refine U.ind fun u ih n hs hn bo be g v rows hok hrl => ?_
  have hkl := hs.1.kids
  have hlen : u.flat.length = 1 + (U.flats u.kids).length := by rw [U.flat_eq, List.length_cons]; omega
  have hwd : IntKind.i64.wrap ((n : Int) + 1) = ((n + 1 : Nat) : Int) := by rw [wrap_i64 (by omega) (by omega)]; omega
  obtain ⟨hv, hg, hbe⟩ := hok
  have hbo : ¬ bo = be := fun e => hbe e.symm
  have hL := f284 G hG u n hs (by omega)
  have hll := U.lines_len u n
  refine FnSpec.w c283 ?_
  unfold s283 r283 LnSt
  rcases hv with rfl | ⟨rfl, rfl, rfl⟩
  · (repeat' (first | (with_reducible refine split_case (fun h => ?_) (fun h => ?_) <;> (try simp only [Da, Db, Dc, Dd, De, Df, Dg, Dh] at h)) | (with_reducible refine gd_case (fun h => ?_) (fun h => ?_) <;> (try simp only [Da, Db, Dc, Dd, De, Df, Dg, Dh] at h)) | (with_reducible refine pick_case (fun h => ?_) (fun h => ?_) <;> (try simp only [Da, Db, Dc, Dd, De, Df, Dg, Dh] at h)) | (with_reducible refine And.intro (by omega) ?_) | (with_reducible refine CALL_pure (hL) ?_) | simp -dsimp -implicitDefEqProofs only [EV1, EV2, EV3, EV4, EV5, seval, ↓reduceIte, reduceCtorEq, eq_self, Option.map_some, decide_true, decide_false, EV6, EV7, hbe, hbo, hne] | simp -dsimp -implicitDefEqProofs only [EV1, EV2, EV3, EV4, EV5, seval, ↓reduceIte, reduceCtorEq, eq_self, Option.map_some, decide_true, decide_false, EV6, EV7, hbe, hbo] | (with_reducible intro blk hblk; (try (have hnx := hblk; simp only [EVK] at hnx; first | (have hne := And.intro hnx hne) | (have hne := hnx)))) | (with_reducible refine both_case ?_ ?_) | (with_reducible refine same_case ?_) | (refine ⟨[[.str (lineOf u n)]], rfl, (by simp), rfl, ?_⟩) | (refine app_rowX (n := rows.length) (m' := rows.length + 1) [_, _] (by rfl) (fun d hd => by simp [Store.keys]; exact ⟨(hg d hd).2, (hg d hd).1⟩) (by simp) (by omega) (by omega) rfl (by assumption) (by omega) (fun gn hgn => ?_)) | (refine same_case ?_) | (exfalso; omega)))
    all_goals (
      refine W_list (ι := Option Nat × List (List UInt8)) u.kids (fun i r c => LnOk bo be c.1 (.own c.1 9 1 (c.2.map srow)) c.2 ∧ rows ++ u.lines n = c.2 ++ U.liness (n + 1) r ∧ c.2.length + (U.liness (n + 1) r).length ≤ 1000000)
        (fun i c => [(1, .int .i64 n), (3, .sc (.pointer (some ⟨be, 0, none⟩))), (15, .lst 8 (u.kids.map U.cs)), (16, .int .i64 u.kids.length), (17, .int .i64 i)])
        (fun i c => LnSt bo be c.1 (.own c.1 9 1 (c.2.map srow)) c.2.length) (gn, rows ++ [lineOf u n]) ⟨⟨.inl rfl, fun d hd => by have := hgn d hd; simp [Store.keys] at this; exact ⟨this.2, this.1⟩, hbe⟩, by rw [U.lines_eq]; simp, by have := hll; simp only [U.lines_eq, List.length_cons, List.length_append, List.length_nil] at *; omega⟩
        (by simp only [LnSt, List.map_append, List.map_cons, List.map_nil, List.length_append, List.length_cons, List.length_nil, srow]; exact Weak.rfl' _ _) (by omega) (fun i x r c hok hx hw => ?_) (fun c hok hn => ?_)
      · obtain ⟨o1, o2, o3⟩ := hok
        rw [U.liness_cons] at o2 o3
        rw [List.length_append] at o3
        have hxl := U.lines_len x (n + 1)
        have hmm := U.flats_mem hx.mem
        unfold LnSt
        (try simp -dsimp -implicitDefEqProofs only [EV1, EV2, EV3, EV4, EV5, seval, ↓reduceIte, reduceCtorEq, eq_self, Option.map_some, decide_true, decide_false, EV6, EV7, hx.yes, hx.le0, hx.lt', hx.row, hw, hwd, hbe, hbo])
        intro b7 hb7
        have hb7' : ¬ b7 = be := by simp only [EVK] at hb7; exact hb7.1
        (try simp -dsimp -implicitDefEqProofs only [EV1, EV2, EV3, EV4, EV5, seval, ↓reduceIte, reduceCtorEq, eq_self, Option.map_some, decide_true, decide_false, EV6, EV7, hx.yes, hx.le0, hx.lt', hx.row, hw, hwd, hbe, hbo, hb7'])
        refine CALL_spec (LnSt bo be c.1 (.own c.1 9 1 (c.2.map srow)) c.2.length) [(b7, .cells 28 x.cs)] (v_clo2 G (ih x hx.mem (n + 1) (hs.kid hx.mem) (by omega) bo be c.1 _ c.2 o1 (by omega))) (AVleA.rfl' _) SubN.comm1 ?_
        rintro r' σ2 ⟨rfl, g', hk, rfl⟩
        (try simp -dsimp -implicitDefEqProofs only [EV1, EV2, EV3, EV4, EV5, seval, ↓reduceIte, reduceCtorEq, eq_self, Option.map_some, decide_true, decide_false, EV6, EV7, hw])
        refine LK_next hx (g', c.2 ++ x.lines (n + 1)) ⟨hk, by have := o2; simp only [List.append_assoc, List.nil_append] at this ⊢; exact this, by simp only [List.length_append]; omega⟩ (Weak.sub SubN.left)
      · obtain ⟨o1, o2, o3⟩ := hok
        rw [U.liness, List.append_nil] at o2
        (try simp -dsimp -implicitDefEqProofs only [EV1, EV2, EV3, EV4, EV5, seval, ↓reduceIte, reduceCtorEq, eq_self, Option.map_some, decide_true, decide_false, EV6, EV7, hn])
        (try rw [List.nil_append] at o2)
        exact RET.mk (SubN.refl _) ⟨rfl, c.1, by rw [o2]; exact o1, by rw [o2]; rfl⟩)
  · (repeat' (first | (with_reducible refine split_case (fun h => ?_) (fun h => ?_) <;> (try simp only [Da, Db, Dc, Dd, De, Df, Dg, Dh] at h)) | (with_reducible refine gd_case (fun h => ?_) (fun h => ?_) <;> (try simp only [Da, Db, Dc, Dd, De, Df, Dg, Dh] at h)) | (with_reducible refine pick_case (fun h => ?_) (fun h => ?_) <;> (try simp only [Da, Db, Dc, Dd, De, Df, Dg, Dh] at h)) | (with_reducible refine And.intro (by omega) ?_) | (with_reducible refine CALL_pure (hL) ?_) | simp -dsimp -implicitDefEqProofs only [EV1, EV2, EV3, EV4, EV5, seval, ↓reduceIte, reduceCtorEq, eq_self, Option.map_some, decide_true, decide_false, EV6, EV7, hbe, hbo, hne] | simp -dsimp -implicitDefEqProofs only [EV1, EV2, EV3, EV4, EV5, seval, ↓reduceIte, reduceCtorEq, eq_self, Option.map_some, decide_true, decide_false, EV6, EV7, hbe, hbo] | (with_reducible intro blk hblk; (try (have hnx := hblk; simp only [EVK] at hnx; first | (have hne := And.intro hnx hne) | (have hne := hnx)))) | (with_reducible refine both_case ?_ ?_) | (with_reducible refine same_case ?_) | (refine ⟨[[.str (lineOf u n)]], rfl, (by simp), rfl, ?_⟩) | (refine app_rowX (n := 0) (m' := 1) [_, _] (by rfl) (by simp) (by simp) (by omega) (by omega) rfl (by assumption) (by omega) (fun gn hgn => ?_)) | (refine same_case ?_) | (exfalso; omega)))
    all_goals (
      refine W_list (ι := Option Nat × List (List UInt8)) u.kids (fun i r c => LnOk bo be c.1 (.own c.1 9 1 (c.2.map srow)) c.2 ∧ [] ++ u.lines n = c.2 ++ U.liness (n + 1) r ∧ c.2.length + (U.liness (n + 1) r).length ≤ 1000000)
        (fun i c => [(1, .int .i64 n), (3, .sc (.pointer (some ⟨be, 0, none⟩))), (15, .lst 8 (u.kids.map U.cs)), (16, .int .i64 u.kids.length), (17, .int .i64 i)])
        (fun i c => LnSt bo be c.1 (.own c.1 9 1 (c.2.map srow)) c.2.length) (gn, [lineOf u n]) ⟨⟨.inl rfl, fun d hd => by have := hgn d hd; simp [Store.keys] at this; exact ⟨this.2, this.1⟩, hbe⟩, by rw [U.lines_eq]; simp, by have := hll; simp only [U.lines_eq, List.length_cons, List.length_append, List.length_nil] at *; omega⟩
        (by simp only [LnSt, List.map_append, List.map_cons, List.map_nil, List.length_append, List.length_cons, List.length_nil, srow]; exact Weak.rfl' _ _) (by omega) (fun i x r c hok hx hw => ?_) (fun c hok hn => ?_)
      · obtain ⟨o1, o2, o3⟩ := hok
        rw [U.liness_cons] at o2 o3
        rw [List.length_append] at o3
        have hxl := U.lines_len x (n + 1)
        have hmm := U.flats_mem hx.mem
        unfold LnSt
        (try simp -dsimp -implicitDefEqProofs only [EV1, EV2, EV3, EV4, EV5, seval, ↓reduceIte, reduceCtorEq, eq_self, Option.map_some, decide_true, decide_false, EV6, EV7, hx.yes, hx.le0, hx.lt', hx.row, hw, hwd, hbe, hbo])
        intro b7 hb7
        have hb7' : ¬ b7 = be := by simp only [EVK] at hb7; exact hb7.1
        (try simp -dsimp -implicitDefEqProofs only [EV1, EV2, EV3, EV4, EV5, seval, ↓reduceIte, reduceCtorEq, eq_self, Option.map_some, decide_true, decide_false, EV6, EV7, hx.yes, hx.le0, hx.lt', hx.row, hw, hwd, hbe, hbo, hb7'])
        refine CALL_spec (LnSt bo be c.1 (.own c.1 9 1 (c.2.map srow)) c.2.length) [(b7, .cells 28 x.cs)] (v_clo2 G (ih x hx.mem (n + 1) (hs.kid hx.mem) (by omega) bo be c.1 _ c.2 o1 (by omega))) (AVleA.rfl' _) SubN.comm1 ?_
        rintro r' σ2 ⟨rfl, g', hk, rfl⟩
        (try simp -dsimp -implicitDefEqProofs only [EV1, EV2, EV3, EV4, EV5, seval, ↓reduceIte, reduceCtorEq, eq_self, Option.map_some, decide_true, decide_false, EV6, EV7, hw])
        refine LK_next hx (g', c.2 ++ x.lines (n + 1)) ⟨hk, by have := o2; simp only [List.append_assoc, List.nil_append] at this ⊢; exact this, by simp only [List.length_append]; omega⟩ (Weak.sub SubN.left)
      · obtain ⟨o1, o2, o3⟩ := hok
        rw [U.liness, List.append_nil] at o2
        (try simp -dsimp -implicitDefEqProofs only [EV1, EV2, EV3, EV4, EV5, seval, ↓reduceIte, reduceCtorEq, eq_self, Option.map_some, decide_true, decide_false, EV6, EV7, hn])
        (try rw [List.nil_append] at o2)
        exact RET.mk (SubN.refl _) ⟨rfl, c.1, by rw [o2]; exact o1, by rw [o2]; rfl⟩)

theorem f252 (u : U) (hs : u.Short) : FnSpec G Tryz.prog 252 [.agg u.cs] [] (fun r σ' => (shapeOk u = false ∧ r = .nil) ∨ (shapeOk u = true ∧ ∃ g, r = .own g 9 1 ((u.lines 0).map srow))) := by
  have hS := f282 G u hs
  have hV := f254 G hG u.strip (strip_short hs)
  rw [tree_strip] at hV
  have hc := hs.1.2
  refine FnSpec.w c252 ?_
  unfold s252 r252
  cases hsh : shapeOk u with
  | false =>
    rw [hsh] at hV
    (repeat' (first | (with_reducible refine split_case (fun h => ?_) (fun h => ?_) <;> (try simp only [Da, Db, Dc, Dd, De, Df, Dg, Dh] at h)) | (with_reducible refine gd_case (fun h => ?_) (fun h => ?_) <;> (try simp only [Da, Db, Dc, Dd, De, Df, Dg, Dh] at h)) | (with_reducible refine pick_case (fun h => ?_) (fun h => ?_) <;> (try simp only [Da, Db, Dc, Dd, De, Df, Dg, Dh] at h)) | (with_reducible refine And.intro (by omega) ?_) | (with_reducible refine CALL_pure (hS) ?_) | (with_reducible refine CALL_pure (hV) ?_) | simp -dsimp -implicitDefEqProofs only [EV1, EV2, EV3, EV4, EV5, seval, ↓reduceIte, reduceCtorEq, eq_self, Option.map_some, decide_true, decide_false, EV6, EV7] | (with_reducible intro blk hblk; (try (have hnx := hblk; simp only [EVK] at hnx; first | (have hne := And.intro hnx hne) | (have hne := hnx)))) | (with_reducible refine both_case ?_ ?_) | (with_reducible refine same_case ?_) | (exfalso; omega)))
    exact RET.mk (SubN.nil _) (by simp)
  | true =>
    rw [hsh] at hV
    (try simp -dsimp -implicitDefEqProofs only [EV1, EV2, EV3, EV4, EV5, seval, ↓reduceIte, reduceCtorEq, eq_self, Option.map_some, decide_true, decide_false, EV6, EV7, hS])
    refine CALL_pure hS ?_
    (try simp -dsimp -implicitDefEqProofs only [EV1, EV2, EV3, EV4, EV5, seval, ↓reduceIte, reduceCtorEq, eq_self, Option.map_some, decide_true, decide_false, EV6, EV7])
    refine CALL_pure hV ?_
    (try simp -dsimp -implicitDefEqProofs only [EV1, EV2, EV3, EV4, EV5, seval, ↓reduceIte, reduceCtorEq, eq_self, Option.map_some, decide_true, decide_false, EV6, EV7])
    intro bo hbo be hbe
    have h1 : ¬ be = bo := by simp only [EVK] at hbe; exact hbe
    have h2 : ¬ bo = be := fun e => h1 e.symm
    (try simp -dsimp -implicitDefEqProofs only [EV1, EV2, EV3, EV4, EV5, seval, ↓reduceIte, reduceCtorEq, eq_self, Option.map_some, decide_true, decide_false, EV6, EV7, h1, h2])
    have hL := f283 G hG u 0 hs (by omega) bo be none .nil [] ⟨.inr ⟨rfl, rfl, rfl⟩, by simp, h1⟩ (by simp; omega)
    refine CALL_spec (LnSt bo be none .nil 0) [] (v_clo2 G hL) (AVleA.rfl' _) (by rw [List.append_nil]; exact SubN.refl _) ?_
    rintro r σ' ⟨rfl, g', _, rfl⟩
    unfold LnSt
    (try simp -dsimp -implicitDefEqProofs only [EV1, EV2, EV3, EV4, EV5, seval, ↓reduceIte, reduceCtorEq, eq_self, Option.map_some, decide_true, decide_false, EV6, EV7, h1, h2])
    exact RET.mk (SubN.nil _) (by simp)

theorem f193 (u : U) (hs : u.Short) : Pure G Tryz.prog 193 [.agg u.cs] (.tup [.str (textOf u).1, .int .i64 (textOf u).2]) := by
  have hL := f252 G hG u hs
  have hc := hs.1.2
  have hll := U.lines_len u 0
  have hpos : 1 ≤ (u.lines 0).length := by rw [hll]; exact u.flat_pos
  have hj := join_lines (u.lines 0) (by intro e; rw [e] at hpos; simp at hpos)
  have htl := textT_len u hc
  have hjt : Lib.join (u.lines 0) [10] ++ [10] = textT u := hj
  have hjl : (Lib.join (u.lines 0) [10]).length + 1 = (textT u).length := by rw [← hjt]; simp
  refine Pure.w c193 fun R hR => ?_
  unfold s193 r193
  (try simp -dsimp -implicitDefEqProofs only [EV1, EV2, EV3, EV4, EV5, seval, ↓reduceIte, reduceCtorEq, eq_self, Option.map_some, decide_true, decide_false, EV6, EV7])
  refine CALL_spec [] [] hL.v (AVleA.rfl' _) (SubN.refl _) ?_
  rintro r σ' (⟨hsh, rfl⟩ | ⟨hsh, g, rfl⟩)
  · have e2 : textOf u = ([], 1) := by unfold textOf; rw [hsh]; rfl
    rw [e2] at hR
    (try simp -dsimp -implicitDefEqProofs only [EV1, EV2, EV3, EV4, EV5, seval, ↓reduceIte, reduceCtorEq, eq_self, Option.map_some, decide_true, decide_false, EV6, EV7])
    exact RET.eq hR rfl
  · have e2 : textOf u = if (16384 : Int) < (textT u).length then ([], 6) else (textT u, 0) := by unfold textOf; rw [hsh]; rfl
    rw [e2] at hR
    have hz : decide (((u.lines 0).length : Int) = 0) = false := decide_eq_false (by omega)
    have hJ := f253 G g (u.lines 0) [10] (by omega) (by omega)
    (repeat' (first | (with_reducible refine split_case (fun h => ?_) (fun h => ?_) <;> (try simp only [Da, Db, Dc, Dd, De, Df, Dg, Dh] at h)) | (with_reducible refine gd_case (fun h => ?_) (fun h => ?_) <;> (try simp only [Da, Db, Dc, Dd, De, Df, Dg, Dh] at h)) | (with_reducible refine pick_case (fun h => ?_) (fun h => ?_) <;> (try simp only [Da, Db, Dc, Dd, De, Df, Dg, Dh] at h)) | (with_reducible refine And.intro (by omega) ?_) | (with_reducible refine CALL_pure (hJ) ?_) | simp -dsimp -implicitDefEqProofs only [EV1, EV2, EV3, EV4, EV5, seval, ↓reduceIte, reduceCtorEq, eq_self, Option.map_some, decide_true, decide_false, EV6, EV7, hz, hjt, List.length_cons, List.length_nil] | (with_reducible intro blk hblk; (try (have hnx := hblk; simp only [EVK] at hnx; first | (have hne := And.intro hnx hne) | (have hne := hnx)))) | (with_reducible refine both_case ?_ ?_) | (with_reducible refine same_case ?_) | (exfalso; omega)))
    · rw [if_pos (by omega)] at hR
      exact RET.eq hR rfl
    · rw [if_neg (by omega)] at hR
      exact RET.eq hR rfl
end
end Go.Av
end

section
namespace Go.Av
open Go Go.RowKit Go.Proofs
set_option linter.unusedSimpArgs false
set_option linter.unusedVariables false

theorem Itm.ext' {a b : Itm} (h1 : a.kind = b.kind) (h2 : a.at_ = b.at_) (h3 : a.to_ = b.to_) (h4 : a.wh = b.wh) (h5 : a.nth = b.nth) (h6 : a.unit = b.unit) (h7 : a.old = b.old) (h8 : a.new = b.new) (h9 : a.label = b.label) (h10 : a.for_ = b.for_)
    (h11 : a.start = b.start) (h12 : a.act = b.act) (h13 : a.item = b.item) (h14 : a.day = b.day) (h15 : a.event = b.event) (h16 : a.by_ = b.by_) : a = b := by
  cases a; cases b; simp_all

theorem sta_eq {a b : Sta} (h : (decide (a.kind = b.kind) && (decide (a.day = b.day) && (decide (a.event = b.event) && true))) = true) : a = b := by
  cases a; cases b; simp_all
theorem sta_ne {a b : Sta} (h : (decide (a.kind = b.kind) && (decide (a.day = b.day) && (decide (a.event = b.event) && true))) = false) : a ≠ b := by
  rintro rfl; simp at h
section
variable (G : Glob)
set_option maxHeartbeats 4000000 in
theorem f44 : ∀ (a : Itm), a.fit → ∀ b : Itm, Pure G Tryz.prog 44 [.agg a.cs, .agg b.cs] (.bool (decide (a = b))) := by
  refine Itm.ind fun a ih hfit b => ?_
  obtain ⟨h1, h2, h3, h4, h5, h6, h7⟩ := (Itm.fit_eq a).1 hfit
  refine Pure.w c44 fun R hR => ?_
  unfold s44 r44
  (repeat' (first | (with_reducible refine split_case (fun h => ?_) (fun h => ?_) <;> (try simp only [Da, Db, Dc, Dd, De, Df, Dg, Dh] at h)) | (with_reducible refine gd_case (fun h => ?_) (fun h => ?_) <;> (try simp only [Da, Db, Dc, Dd, De, Df, Dg, Dh] at h)) | (with_reducible refine pick_case (fun h => ?_) (fun h => ?_) <;> (try simp only [Da, Db, Dc, Dd, De, Df, Dg, Dh] at h)) | (with_reducible refine And.intro (by omega) ?_) | (with_reducible refine CALL_pure (f37 G _ _ (by omega)) ?_) | (with_reducible refine CALL_pure (f24 G a.unit h3 b.unit) ?_) | (with_reducible refine CALL_pure (f38 G _ _ (by omega)) ?_) | (with_reducible refine CALL_pure (ih x hx.mem (h7 x hx.mem) y) ?_) | simp -dsimp -implicitDefEqProofs only [EV1, EV2, EV3, EV4, EV5, seval, ↓reduceIte, reduceCtorEq, eq_self, Option.map_some, decide_true, decide_false, EV6, EV7, U.cs_fold, hx.yes, hx.le0, hx.lt', hx.get, hx.row, hw, hy.row, hy.lt'] | simp -dsimp -implicitDefEqProofs only [EV1, EV2, EV3, EV4, EV5, seval, ↓reduceIte, reduceCtorEq, eq_self, Option.map_some, decide_true, decide_false, EV6, EV7, U.cs_fold, hn] | simp -dsimp -implicitDefEqProofs only [EV1, EV2, EV3, EV4, EV5, seval, ↓reduceIte, reduceCtorEq, eq_self, Option.map_some, decide_true, decide_false, EV6, EV7, U.cs_fold] | (with_reducible intro blk hblk; (try (have hnx := hblk; simp only [EVK] at hnx; first | (have hne := And.intro hnx hne) | (have hne := hnx)))) | (with_reducible refine both_case ?_ ?_) | (with_reducible refine same_case ?_) | (refine LK_next hx () ?_ (Weak.rfl' _ _)) | (refine LK_next hx () ?_ (Weak.sub (SubN.nil _))) | (refine W_list a.by_ (fun i r (c : Unit) => a.by_.length = b.by_.length ∧ decide (a.by_ = b.by_) = decide (r = b.by_.drop i)) (fun i c => [(2, .ref a.cs), (3, .ref b.cs), (5, .int .i64 i)]) (fun _ _ => []) () ⟨by omega, by simp⟩ (Weak.rfl' _ _) (by omega) (fun i x r c hok hx hw => ?_) (fun c hok hn => ?_) <;> (try (obtain ⟨y, r2, hy, hyn, hok⟩ := pair_more hok hx)) ) | (exfalso; omega)))
  all_goals first
    | (refine RET.eq hR (congrArg AV.bool (Eq.symm (decide_eq_false ?_))); rintro rfl; exact absurd rfl h)
    | (refine RET.eq hR (congrArg AV.bool (Eq.symm (decide_eq_false ?_))); rintro rfl; simp at h; done)
    | skip
  all_goals first
    | (have hbn : decide (a.by_ = b.by_) = false := by rw [hok]; simp [h]
       refine RET.eq hR (congrArg AV.bool (Eq.symm (decide_eq_false ?_))); rintro rfl; simp at hbn; done)
    | (rw [hok, hyn, h]; simp; done)
    | (rw [hok, hyn]; simp [h]; done)
    | (have hby : a.by_ = b.by_ := by have := hok.2; rw [hok.1, List.drop_length] at this; simpa using this
       refine RET.eq hR (congrArg AV.bool (Eq.symm (decide_eq_true ?_)))
       exact Itm.ext' (Classical.not_not.1 (by assumption)) (by assumption) (by assumption) (Classical.not_not.1 (by assumption)) (Classical.not_not.1 (by assumption)) (by assumption) (by assumption) (by assumption) (Classical.not_not.1 (by assumption)) (Classical.not_not.1 (by assumption))
         (sta_eq (by assumption)) (Classical.not_not.1 (by assumption)) (Classical.not_not.1 (by assumption)) (Classical.not_not.1 (by assumption)) (Classical.not_not.1 (by assumption)) hby)
    | trace_state
end
end Go.Av
end

section
namespace Go.Av
open Go Go.RowKit Go.Proofs
set_option linter.unusedSimpArgs false
set_option linter.unusedVariables false

def Itm.just (x : Itm) : Itm :=
  if x.kind = 0 then { iz with wh := x.wh, unit := x.unit } else if x.kind = 2 ∨ x.kind = 3 then { iz with old := x.old, new := x.new, nth := x.nth } else if x.kind = 4 then { iz with new := x.new } else
  if x.kind = 5 then { iz with label := x.label } else if x.kind = 6 then { iz with to_ := x.to_, wh := x.wh } else if x.kind = 7 ∨ x.kind = 8 ∨ x.kind = 9 then { iz with act := x.act, item := x.item, day := x.day } else
  if x.kind = 10 then { iz with event := x.event, day := x.day } else if x.kind = 11 then { iz with act := x.act, item := x.item, by_ := x.by_ } else iz
def Itm.told (x : Itm) : Itm := if x.kind ≤ 6 then { x.just with kind := x.kind, at_ := x.at_, for_ := x.for_, start := x.start } else { x.just with kind := x.kind }

section
variable (G : Glob)
set_option maxHeartbeats 4000000 in
theorem f51 (x : Itm) (h0 : 0 ≤ x.kind) (h11 : x.kind ≤ 11) : Pure G Tryz.prog 51 [.agg x.cs] (.agg x.told.cs) := by
  refine Pure.w c51 fun R hR => ?_
  unfold s51 r51
  have hk : x.kind = 0 ∨ x.kind = 1 ∨ x.kind = 2 ∨ x.kind = 3 ∨ x.kind = 4 ∨ x.kind = 5 ∨ x.kind = 6 ∨ x.kind = 7 ∨ x.kind = 8 ∨ x.kind = 9 ∨ x.kind = 10 ∨ x.kind = 11 := by omega
  rcases hk with hk | hk | hk | hk | hk | hk | hk | hk | hk | hk | hk | hk
  all_goals
    (repeat' (first | (with_reducible refine split_case (fun h => ?_) (fun h => ?_) <;> (try simp only [Da, Db, Dc, Dd, De, Df, Dg, Dh] at h)) | (with_reducible refine gd_case (fun h => ?_) (fun h => ?_) <;> (try simp only [Da, Db, Dc, Dd, De, Df, Dg, Dh] at h)) | (with_reducible refine pick_case (fun h => ?_) (fun h => ?_) <;> (try simp only [Da, Db, Dc, Dd, De, Df, Dg, Dh] at h)) | (with_reducible refine And.intro (by omega) ?_)  | simp -dsimp -implicitDefEqProofs only [EV1, EV2, EV3, EV4, EV5, seval, ↓reduceIte, reduceCtorEq, eq_self, Option.map_some, decide_true, decide_false, EV6, EV7, hk, hne] | simp -dsimp -implicitDefEqProofs only [EV1, EV2, EV3, EV4, EV5, seval, ↓reduceIte, reduceCtorEq, eq_self, Option.map_some, decide_true, decide_false, EV6, EV7, hk] | (with_reducible intro blk hblk; (try (have hnx := hblk; simp only [EVK] at hnx; first | (have hne := And.intro hnx hne) | (have hne := hnx)))) | (with_reducible refine both_case ?_ ?_) | (with_reducible refine same_case ?_) | (exfalso; omega)))
    refine hR _ _ (Or.inr ?_)
    rw [Itm.cs_eq]
    simp [AVleL, AVle1, Itm.told, Itm.just, iz, hk]
end
end Go.Av
end
