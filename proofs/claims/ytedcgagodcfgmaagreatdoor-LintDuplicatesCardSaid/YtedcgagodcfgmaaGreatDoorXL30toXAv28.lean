/-
  LINT, 30: the program's lines and texts of trees.
-/
import Derived.Test.YtedcgagodcfgmaaGreatDoorXP1toXL28
import Derived.Test.YtedcgagodcfgmaaGreatDoorXL25toXL50
section
namespace Go.Av
open Go Go.RowKit Go.Proofs
set_option linter.unusedSimpArgs false
set_option linter.unusedVariables false

theorem app_rowX {e : TypeId} {sz bytes n m m' : Nat} {τ : Store} (κ : Store) {g : Option Nat} {rows : List (List AV)} {cs : List AV} {K : AV → Store → Prop} {b k1 : Nat} (hτ : τ = κ ++ tokS g e m) (hg : ∀ d, g = some d → d ∉ κ.keys) (hr : rows.length = n) (hm : m = n * sz)
    (hm' : m' = (n + 1) * sz) (hl : cs.length = sz) (hb : b ∉ τ.keys) (hn : (n + 1) * bytes ≤ 140737488355328) (hk : ∀ g', (∀ d, g' = some d → d ∉ κ.keys) → K (.own g' e sz (rows ++ [cs])) (κ ++ tokS g' e m')) :
    appX e sz bytes ((b, .tok e k1) :: τ) g rows [cs] K := by
  obtain ⟨rs, h1, h2, h3, h4⟩ := app_rowK (K := fun _ => K) (k1 := k1) κ hτ hg hr hm hm' hl hb hn hk
  obtain ⟨r, rfl⟩ := List.length_eq_one_iff.1 h1
  simp only [List.flatten_cons, List.flatten_nil, List.append_nil] at h3
  subst h3
  exact h4

section
variable (G : Glob)
theorem v_clo2 {k : Nat} {b c : Nat} {args : List AV} {σ : Store} {R : AV → Store → Prop} (h : FnSpec G Tryz.prog k (args ++ [.sc (.pointer (some ⟨b, 0, none⟩)), .sc (.pointer (some ⟨c, 0, none⟩))]) σ R) : VSpec G Tryz.prog (.func (.func k) #[] #[.pointer (some ⟨b, 0, none⟩), .pointer (some ⟨c, 0, none⟩)]) args σ R :=
  ⟨k, #[], #[.pointer (some ⟨b, 0, none⟩), .pointer (some ⟨c, 0, none⟩)], rfl, by simpa [AV.ofValue, AV.ofOne] using h⟩
end

theorem join_lines : ∀ l : List (List UInt8), l ≠ [] → Lib.join l [10] ++ [10] = l.flatMap fun s => s ++ [10]
  | [], h => absurd rfl h
  | [s], _ => by simp [Lib.join, List.intercalate]
  | s :: t :: l, _ => by
    have ih := join_lines (t :: l) (by simp)
    have e : Lib.join (s :: t :: l) [10] = s ++ ([10] ++ Lib.join (t :: l) [10]) := by simp [Lib.join, List.intercalate]
    rw [e, List.flatMap_cons, ← ih]
    simp

theorem textT_len (u : U) (hc : u.flat.length < 1000000) : (textT u).length ≤ 20001000000 := by
  have h1 := U.lines_len u 0
  have h2 := lines_short u 0
  unfold textT
  have key : ∀ l : List (List UInt8), (∀ s ∈ l, s.length ≤ 20000) → (l.flatMap fun s => s ++ [10]).length ≤ l.length * 20001 := by
    intro l
    induction l with
    | nil => intro _; simp
    | cons s l ih =>
      intro h
      have h3 := h s (by simp)
      have h4 := ih fun t ht => h t (by simp [ht])
      simp only [List.flatMap_cons, List.length_append, List.length_cons, List.length_nil] at *
      omega
  have := key _ h2
  omega

/-- The lines so far, in a cell; the function that calls itself, in another. -/
def LnSt (bo be : Nat) (g : Option Nat) (v : AV) (n : Nat) : Store := (be, .cells 241 [.sc (.func (.func 283) #[] #[.pointer (some ⟨bo, 0, none⟩), .pointer (some ⟨be, 0, none⟩)])]) :: (bo, .cells 29 [v]) :: tokS g 9 n
def LnOk (bo be : Nat) (g : Option Nat) (v : AV) (rows : List (List UInt8)) : Prop := (v = .own g 9 1 (rows.map srow) ∨ v = .nil ∧ g = none ∧ rows = []) ∧ (∀ d, g = some d → d ≠ bo ∧ d ≠ be) ∧ be ≠ bo

section
variable (G : Glob) (hG : GOk G)
include hG
set_option maxHeartbeats 2000000 in
theorem f283 : ∀ (u : U) (n : Nat), u.Short → n + u.flat.length ≤ 1000000 → ∀ (bo be : Nat) (g : Option Nat) (v : AV) (rows : List (List UInt8)), LnOk bo be g v rows → rows.length + u.flat.length ≤ 1000000 →
    FnSpec G Tryz.prog 283 [.agg u.cs, .int .i64 n, .sc (.pointer (some ⟨bo, 0, none⟩)), .sc (.pointer (some ⟨be, 0, none⟩))] (LnSt bo be g v rows.length)
      (fun r σ' => r = .tup [] ∧ ∃ g', LnOk bo be g' (.own g' 9 1 ((rows ++ u.lines n).map srow)) (rows ++ u.lines n) ∧ σ' = LnSt bo be g' (.own g' 9 1 ((rows ++ u.lines n).map srow)) (rows ++ u.lines n).length) := by
  refine U.ind fun u ih n hs hn bo be g v rows hok hrl => ?_
  have hkl := hs.1.kids
  have hlen : u.flat.length = 1 + (U.flats u.kids).length := by rw [U.flat_eq, List.length_cons]; omega
  have hwd : IntKind.i64.wrap ((n : Int) + 1) = ((n + 1 : Nat) : Int) := by rw [wrap_i64 (by omega) (by omega)]; omega
  obtain ⟨hv, hg, hbe⟩ := hok
  have hbo : ¬ bo = be := fun e => hbe e.symm
  have hL := f284 G hG u n hs (by omega)
  have hll := U.lines_len u n
  refine FnSpec.w c283 ?_
  unfold s283 r283 LnSt
  rcases hv with rfl | ⟨rfl, rfl, rfl⟩
  · (repeat' (first | (with_reducible refine CALL_pure (hL) ?_) | simp -dsimp -implicitDefEqProofs only [EV1, EV2, EV3, EV4, EV5, seval, ↓reduceIte, reduceCtorEq, eq_self, Option.map_some, decide_true, decide_false, EV6, EV7, hbe, hbo, hne] | simp -dsimp -implicitDefEqProofs only [EV1, EV2, EV3, EV4, EV5, seval, ↓reduceIte, reduceCtorEq, eq_self, Option.map_some, decide_true, decide_false, EV6, EV7, hbe, hbo] | (with_reducible intro blk hblk; (try (have hnx := hblk; simp only [EVK] at hnx; (have hne := hnx)))) | (with_reducible refine both_case ?_ ?_) | (with_reducible refine same_case ?_) | (refine ⟨[[.str (lineOf u n)]], rfl, (by simp), rfl, ?_⟩) | (refine app_rowX (n := rows.length) (m' := rows.length + 1) [_, _] (by rfl) (fun d hd => by simp [Store.keys]; exact ⟨(hg d hd).2, (hg d hd).1⟩) (by simp) (by omega) (by omega) rfl (by assumption) (by omega) (fun gn hgn => ?_))))
    all_goals (
      refine W_list (ι := Option Nat × List (List UInt8)) u.kids (fun i r c => LnOk bo be c.1 (.own c.1 9 1 (c.2.map srow)) c.2 ∧ rows ++ u.lines n = c.2 ++ U.liness (n + 1) r ∧ c.2.length + (U.liness (n + 1) r).length ≤ 1000000)
        (fun i c => [(1, .int .i64 n), (3, .sc (.pointer (some ⟨be, 0, none⟩))), (15, .lst 8 (u.kids.map U.cs)), (16, .int .i64 u.kids.length), (17, .int .i64 i)])
        (fun i c => LnSt bo be c.1 (.own c.1 9 1 (c.2.map srow)) c.2.length) (gn, rows ++ [lineOf u n]) ⟨⟨.inl rfl, fun d hd => by have := hgn d hd; simp [Store.keys] at this; exact ⟨this.2, this.1⟩, hbe⟩, by rw [U.lines_eq]; simp, by have := hll; simp only [U.lines_eq, List.length_cons, List.length_append, List.length_nil] at *; omega⟩
        (by simp only [LnSt, List.map_append, List.map_cons, List.map_nil, List.length_append, List.length_cons, List.length_nil, srow]; exact Weak.rfl' _ _) (by omega) (fun i x r c hok hx hw => ?_) (fun c hok hn => ?_)
      · obtain ⟨o1, o2, o3⟩ := hok
        rw [U.liness_cons] at o2 o3
        rw [List.length_append] at o3
        have hxl := U.lines_len x (n + 1)
        have hmm := U.flats_mem hx.mem
        unfold LnSt
        (try simp -dsimp -implicitDefEqProofs only [EV1, EV2, EV3, EV4, EV5, seval, ↓reduceIte, reduceCtorEq, eq_self, Option.map_some, decide_true, decide_false, EV6, EV7, hx.yes, hx.le0, hx.lt', hx.row, hw, hwd, hbe, hbo])
        intro b7 hb7
        have hb7' : ¬ b7 = be := by simp only [EVK] at hb7; exact hb7.1
        (try simp -dsimp -implicitDefEqProofs only [EV1, EV2, EV3, EV4, EV5, seval, ↓reduceIte, reduceCtorEq, eq_self, Option.map_some, decide_true, decide_false, EV6, EV7, hx.yes, hx.le0, hx.lt', hx.row, hw, hwd, hbe, hbo, hb7'])
        refine CALL_spec (LnSt bo be c.1 (.own c.1 9 1 (c.2.map srow)) c.2.length) [(b7, .cells 28 x.cs)] (v_clo2 G (ih x hx.mem (n + 1) (hs.kid hx.mem) (by omega) bo be c.1 _ c.2 o1 (by omega))) (AVleA.rfl' _) SubN.comm1 ?_
        rintro r' σ2 ⟨rfl, g', hk, rfl⟩
        (try simp -dsimp -implicitDefEqProofs only [EV1, EV2, EV3, EV4, EV5, seval, ↓reduceIte, reduceCtorEq, eq_self, Option.map_some, decide_true, decide_false, EV6, EV7, hw])
        refine LK_next hx (g', c.2 ++ x.lines (n + 1)) ⟨hk, by have := o2; simp only [List.append_assoc, List.nil_append] at this ⊢; exact this, by simp only [List.length_append]; omega⟩ (Weak.sub SubN.left)
      · obtain ⟨o1, o2, o3⟩ := hok
        rw [U.liness, List.append_nil] at o2
        (try simp -dsimp -implicitDefEqProofs only [EV1, EV2, EV3, EV4, EV5, seval, ↓reduceIte, reduceCtorEq, eq_self, Option.map_some, decide_true, decide_false, EV6, EV7, hn])
        (try rw [List.nil_append] at o2)
        exact RET.mk (SubN.refl _) ⟨rfl, c.1, by rw [o2]; exact o1, by rw [o2]; rfl⟩)
  · (repeat' (first | (with_reducible refine CALL_pure (hL) ?_) | simp -dsimp -implicitDefEqProofs only [EV1, EV2, EV3, EV4, EV5, seval, ↓reduceIte, reduceCtorEq, eq_self, Option.map_some, decide_true, decide_false, EV6, EV7, hbe, hbo, hne] | simp -dsimp -implicitDefEqProofs only [EV1, EV2, EV3, EV4, EV5, seval, ↓reduceIte, reduceCtorEq, eq_self, Option.map_some, decide_true, decide_false, EV6, EV7, hbe, hbo] | (with_reducible intro blk hblk; (try (have hnx := hblk; simp only [EVK] at hnx; (have hne := hnx)))) | (with_reducible refine both_case ?_ ?_) | (with_reducible refine same_case ?_) | (refine ⟨[[.str (lineOf u n)]], rfl, (by simp), rfl, ?_⟩) | (refine app_rowX (n := 0) (m' := 1) [_, _] (by rfl) (by simp) (by simp) (by omega) (by omega) rfl (by assumption) (by omega) (fun gn hgn => ?_))))
    all_goals (
      refine W_list (ι := Option Nat × List (List UInt8)) u.kids (fun i r c => LnOk bo be c.1 (.own c.1 9 1 (c.2.map srow)) c.2 ∧ [] ++ u.lines n = c.2 ++ U.liness (n + 1) r ∧ c.2.length + (U.liness (n + 1) r).length ≤ 1000000)
        (fun i c => [(1, .int .i64 n), (3, .sc (.pointer (some ⟨be, 0, none⟩))), (15, .lst 8 (u.kids.map U.cs)), (16, .int .i64 u.kids.length), (17, .int .i64 i)])
        (fun i c => LnSt bo be c.1 (.own c.1 9 1 (c.2.map srow)) c.2.length) (gn, [lineOf u n]) ⟨⟨.inl rfl, fun d hd => by have := hgn d hd; simp [Store.keys] at this; exact ⟨this.2, this.1⟩, hbe⟩, by rw [U.lines_eq]; simp, by have := hll; simp only [U.lines_eq, List.length_cons, List.length_append, List.length_nil] at *; omega⟩
        (by simp only [LnSt, List.map_append, List.map_cons, List.map_nil, List.length_append, List.length_cons, List.length_nil, srow]; exact Weak.rfl' _ _) (by omega) (fun i x r c hok hx hw => ?_) (fun c hok hn => ?_)
      · obtain ⟨o1, o2, o3⟩ := hok
        rw [U.liness_cons] at o2 o3
        rw [List.length_append] at o3
        have hxl := U.lines_len x (n + 1)
        have hmm := U.flats_mem hx.mem
        unfold LnSt
        (try simp -dsimp -implicitDefEqProofs only [EV1, EV2, EV3, EV4, EV5, seval, ↓reduceIte, reduceCtorEq, eq_self, Option.map_some, decide_true, decide_false, EV6, EV7, hx.yes, hx.le0, hx.lt', hx.row, hw, hwd, hbe, hbo])
        intro b7 hb7
        have hb7' : ¬ b7 = be := by simp only [EVK] at hb7; exact hb7.1
        (try simp -dsimp -implicitDefEqProofs only [EV1, EV2, EV3, EV4, EV5, seval, ↓reduceIte, reduceCtorEq, eq_self, Option.map_some, decide_true, decide_false, EV6, EV7, hx.yes, hx.le0, hx.lt', hx.row, hw, hwd, hbe, hbo, hb7'])
        refine CALL_spec (LnSt bo be c.1 (.own c.1 9 1 (c.2.map srow)) c.2.length) [(b7, .cells 28 x.cs)] (v_clo2 G (ih x hx.mem (n + 1) (hs.kid hx.mem) (by omega) bo be c.1 _ c.2 o1 (by omega))) (AVleA.rfl' _) SubN.comm1 ?_
        rintro r' σ2 ⟨rfl, g', hk, rfl⟩
        (try simp -dsimp -implicitDefEqProofs only [EV1, EV2, EV3, EV4, EV5, seval, ↓reduceIte, reduceCtorEq, eq_self, Option.map_some, decide_true, decide_false, EV6, EV7, hw])
        refine LK_next hx (g', c.2 ++ x.lines (n + 1)) ⟨hk, by have := o2; simp only [List.append_assoc, List.nil_append] at this ⊢; exact this, by simp only [List.length_append]; omega⟩ (Weak.sub SubN.left)
      · obtain ⟨o1, o2, o3⟩ := hok
        rw [U.liness, List.append_nil] at o2
        (try simp -dsimp -implicitDefEqProofs only [EV1, EV2, EV3, EV4, EV5, seval, ↓reduceIte, reduceCtorEq, eq_self, Option.map_some, decide_true, decide_false, EV6, EV7, hn])
        (try rw [List.nil_append] at o2)
        exact RET.mk (SubN.refl _) ⟨rfl, c.1, by rw [o2]; exact o1, by rw [o2]; rfl⟩)

theorem f252 (u : U) (hs : u.Short) : FnSpec G Tryz.prog 252 [.agg u.cs] [] (fun r σ' => (shapeOk u = false ∧ r = .nil) ∨ (shapeOk u = true ∧ ∃ g, r = .own g 9 1 ((u.lines 0).map srow))) := by
  have hS := f282 G u hs
  have hV := f254 G hG u.strip (strip_short hs)
  rw [tree_strip] at hV
  have hc := hs.1.2
  refine FnSpec.w c252 ?_
  unfold s252 r252
  cases hsh : shapeOk u with
  | false =>
    rw [hsh] at hV
    (repeat' (first | (with_reducible refine CALL_pure (hS) ?_) | (with_reducible refine CALL_pure (hV) ?_) | simp -dsimp -implicitDefEqProofs only [EV1, EV2, EV3, EV4, EV5, seval, ↓reduceIte, reduceCtorEq, eq_self, Option.map_some, decide_true, decide_false, EV6, EV7]))
    exact RET.mk (SubN.nil _) (by simp)
  | true =>
    rw [hsh] at hV
    (try simp -dsimp -implicitDefEqProofs only [EV1, EV2, EV3, EV4, EV5, seval, ↓reduceIte, reduceCtorEq, eq_self, Option.map_some, decide_true, decide_false, EV6, EV7, hS])
    refine CALL_pure hS ?_
    (try simp -dsimp -implicitDefEqProofs only [EV1, EV2, EV3, EV4, EV5, seval, ↓reduceIte, reduceCtorEq, eq_self, Option.map_some, decide_true, decide_false, EV6, EV7])
    refine CALL_pure hV ?_
    (try simp -dsimp -implicitDefEqProofs only [EV1, EV2, EV3, EV4, EV5, seval, ↓reduceIte, reduceCtorEq, eq_self, Option.map_some, decide_true, decide_false, EV6, EV7])
    intro bo hbo be hbe
    have h1 : ¬ be = bo := by simp only [EVK] at hbe; exact hbe
    have h2 : ¬ bo = be := fun e => h1 e.symm
    (try simp -dsimp -implicitDefEqProofs only [EV1, EV2, EV3, EV4, EV5, seval, ↓reduceIte, reduceCtorEq, eq_self, Option.map_some, decide_true, decide_false, EV6, EV7, h1, h2])
    have hL := f283 G hG u 0 hs (by omega) bo be none .nil [] ⟨.inr ⟨rfl, rfl, rfl⟩, by simp, h1⟩ (by simp; omega)
    refine CALL_spec (LnSt bo be none .nil 0) [] (v_clo2 G hL) (AVleA.rfl' _) (by rw [List.append_nil]; exact SubN.refl _) ?_
    rintro r σ' ⟨rfl, g', _, rfl⟩
    unfold LnSt
    (try simp -dsimp -implicitDefEqProofs only [EV1, EV2, EV3, EV4, EV5, seval, ↓reduceIte, reduceCtorEq, eq_self, Option.map_some, decide_true, decide_false, EV6, EV7, h1, h2])
    exact RET.mk (SubN.nil _) (by simp)

theorem f193 (u : U) (hs : u.Short) : Pure G Tryz.prog 193 [.agg u.cs] (.tup [.str (textOf u).1, .int .i64 (textOf u).2]) := by
  have hL := f252 G hG u hs
  have hc := hs.1.2
  have hll := U.lines_len u 0
  have hpos : 1 ≤ (u.lines 0).length := by rw [hll]; exact u.flat_pos
  have hj := join_lines (u.lines 0) (by intro e; rw [e] at hpos; simp at hpos)
  have htl := textT_len u hc
  have hjt : Lib.join (u.lines 0) [10] ++ [10] = textT u := hj
  have hjl : (Lib.join (u.lines 0) [10]).length + 1 = (textT u).length := by rw [← hjt]; simp
  refine Pure.w c193 fun R hR => ?_
  unfold s193 r193
  (try simp -dsimp -implicitDefEqProofs only [EV1, EV2, EV3, EV4, EV5, seval, ↓reduceIte, reduceCtorEq, eq_self, Option.map_some, decide_true, decide_false, EV6, EV7])
  refine CALL_spec [] [] hL.v (AVleA.rfl' _) (SubN.refl _) ?_
  rintro r σ' (⟨hsh, rfl⟩ | ⟨hsh, g, rfl⟩)
  · have e2 : textOf u = ([], 1) := by unfold textOf; rw [hsh]; rfl
    rw [e2] at hR
    (try simp -dsimp -implicitDefEqProofs only [EV1, EV2, EV3, EV4, EV5, seval, ↓reduceIte, reduceCtorEq, eq_self, Option.map_some, decide_true, decide_false, EV6, EV7])
    exact RET.eq hR rfl
  · have e2 : textOf u = if (16384 : Int) < (textT u).length then ([], 6) else (textT u, 0) := by unfold textOf; rw [hsh]; rfl
    rw [e2] at hR
    have hz : decide (((u.lines 0).length : Int) = 0) = false := decide_eq_false (by omega)
    have hJ := f253 G g (u.lines 0) [10] (by omega) (by omega)
    (repeat' (first | (with_reducible (refine split_case (fun h => ?_) (fun h => ?_)) <;> (try simp only [Da, Db, Dc, Dd, De, Df, Dg, Dh] at h)) | (with_reducible refine And.intro (by omega) ?_) | (with_reducible refine CALL_pure (hJ) ?_) | simp -dsimp -implicitDefEqProofs only [EV1, EV2, EV3, EV4, EV5, seval, ↓reduceIte, reduceCtorEq, eq_self, Option.map_some, decide_true, decide_false, EV6, EV7, hz, hjt, List.length_cons, List.length_nil]))
    · rw [if_pos (by omega)] at hR
      exact RET.eq hR rfl
    · rw [if_neg (by omega)] at hR
      exact RET.eq hR rfl
end
end Go.Av
end

section
namespace Go.Av
open Go Go.RowKit Go.MapKept
set_option linter.unusedVariables false
set_option linter.unusedSimpArgs false

section
variable {G : Glob} {P : Program} {env : Env} {σ : Store} {K : AV → Store → Prop} {κ : Type} [DecidableEq κ] {kT : TypeId} {val : κ → Value}

theorem find_int (k : Int) : ∀ (l : List Int) (ents : List MapEntry) (i : Nat), ents.map (·.key) = l.map (fun n => Value.int .i64 n) →
    Instr.findNow (.int .i64) (.int .i64 k) ents i = some ((((l.zip ents).zipIdx i).find? fun q => decide (q.1.1 = k)).map fun q => (q.2, q.1.2.val))
  | [], [], i, _ => by simp [Instr.findNow]
  | [], e :: es, i, h => by simp at h
  | b :: l, [], i, h => by simp at h
  | b :: l, e :: es, i, h => by
    simp only [List.map_cons, List.cons.injEq] at h
    simp only [Instr.findNow, h.1, Instr.sameNow, if_true, List.zip_cons_cons, List.zipIdx_cons, List.find?_cons]
    by_cases hb : k = b
    · subst hb; simp
    · have h1 : (k == b) = false := by simpa using hb
      have h2 : decide (b = k) = false := by simp; exact fun e => hb e.symm
      simp only [h1, h2]
      exact find_int k l es (i + 1) h.2

theorem mapK_int (hu : P.underlying kT = some (.int .i64)) : MapK P kT (fun n : Int => Value.int .i64 n) where
  ck em k w := run_checkKey hu (by simp [IsKey]) em 9999
  find k l ents w he := run_findKey hu (find_int k l ents 0 he)
  stays k w := run_keyThatStays (d := .int .i64) (by simp [IsKey])

/-- An entry of a literal. -/
theorem RAW_insert (M : MapK P kT val) {xT eT : TypeId} {x ix y : Operand} {b : Nat} {l : List (κ × AV)} {k : κ} {yv : AV} (hx : (SOpd.of x).eval G env = .sc (.map (some b)))
    (hix : ∀ τ w v, Rep τ w ((SOpd.of ix).eval G env) v → v = val k) (hy : (SOpd.of y).eval G env = yv) (hu : P.underlying xT = some (.map kT eT)) (hg : σ.get b = some (.map (mrows val l)))
    (hk : K undefAV (σ.set b (.map (mrows val (mputs k yv l))))) : RAW G P (.insert xT x ix y) env σ K ⟨⟩ := by
  intro ρ w a o ho hS hE
  have h := RAW_mapUpdate (K := K) M hx hix hy hu hg hk ρ w a { o with op := .mapUpdate xT x ix y } rfl hS hE
  have e : execOp a.eval { o with op := .mapUpdate xT x ix y } = execOp a.eval o := by simp [execOp, ho]
  rwa [e] at h
end
end Go.Av
end
