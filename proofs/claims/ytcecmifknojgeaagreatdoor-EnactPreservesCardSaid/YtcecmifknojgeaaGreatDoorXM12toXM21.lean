/-
  ENACT, M12: words marked, the strings of words, where a row occurs: by the program.
-/
import Derived.Test.YtcecmifknojgeaaGreatDoorXM17toXM11
import Derived.Test.YtcecmifknojgeaaGreatDoorXM15
import Derived.Test.YtcecmifknojgeaaGreatDoorXM2toXM9
section
namespace Go.Av
open Go Go.RowKit Go.Proofs
set_option linter.unusedSimpArgs false
set_option linter.unusedVariables false

section
variable (G : Glob)
theorem f102o (l : List (List UInt8)) (a b m : Int) (hl : l.length < 1000000) (hm0 : 0 ≤ m) (hm : m < 1000000000000) : FnSpec G Tryz.prog 102 [.lst 1 (l.map srow), .int .i64 a, .int .i64 b, .int .i64 m] [] (OwnW (markW a b l m)) := by
  refine FnSpec.w c102 ?_
  unfold s102 r102
  (repeat' (first | simp -dsimp -implicitDefEqProofs only [EVz, seval, ↓reduceIte, reduceCtorEq, EV6, EV7, hx.yes, hx.le0, hx.lt', hx.get, hx.row, hw,  wrap_i64 (x := m + (i : Int)) (by omega) (by have := hx.lt; omega)] | simp -dsimp -implicitDefEqProofs only [EVz, seval, ↓reduceIte, reduceCtorEq, EV6, EV7, hn] | simp -dsimp -implicitDefEqProofs only [EVz, seval, ↓reduceIte, reduceCtorEq, EV6, EV7] | (with_reducible intro blk hblk; (try (have hnx := hblk; simp only [EVK] at hnx; (have hne := hnx)))) | (refine W_list (ι := Option Nat) l (fun i r c => True) (fun i c => [(1, .int .i64 a), (2, .int .i64 b), (3, .int .i64 m), (9, .own c 64 4 ((markW a b (l.take i) m).map Wd.cs)), (12, .lst 1 (l.map srow)), (13, .int .i64 l.length), (14, .int .i64 i)]) (fun i c => tokS c 64 (i * 4)) none trivial (Weak.of (by simp [EnvLe, Env.get, AVle, AVle1, markW]) (SubN.refl _)) (by omega) (fun i x r c hok hx hw => ?_) (fun c hok hn => ?_) ) | fail))
  · have hi := hx.lt
    refine app_row (n := i) (m' := (i + 1) * 4) tok_get (by rw [List.length_map, markW_len, List.length_take]; omega) rfl rfl rfl (by assumption) (by omega) (fun gn => ?_)
    refine LK_next hx gn trivial ?_
    rw [markW_step a b l m hx, List.map_append]
    exact Weak.rfl' _ _
  · rw [List.take_length]
    exact RET.mk (SubN.refl _) ⟨c, rfl, by rw [markW_len]⟩
theorem f102 (l : List (List UInt8)) (a b m : Int) (hl : l.length < 1000000) (hm0 : 0 ≤ m) (hm : m < 1000000000000) : Pure G Tryz.prog 102 [.lst 1 (l.map srow), .int .i64 a, .int .i64 b, .int .i64 m] (.lst 4 ((markW a b l m).map Wd.cs)) :=
  FnSpec.toPure (f102o G l a b m hl hm0 hm) (by rintro r σ' ⟨g, rfl, rfl⟩; exact LeRep.of (.inl (.inr ⟨rfl, rfl⟩)))
theorem f201 (l : List Wd) (hl : l.length < 1000000) : Pure G Tryz.prog 201 [.lst 4 (l.map Wd.cs)] (.lst 1 ((l.map Wd.text).map srow)) := by
  refine Pure.w c201 fun R hR => ?_
  unfold s201 r201
  (repeat' (simp -dsimp -implicitDefEqProofs only [EVz, seval, ↓reduceIte, reduceCtorEq, EV6, EV7]))
  refine W_list (ι := Option Nat) l (fun i r c => True) (fun i c => [(3, .own c 9 1 ((l.take i).map fun w => srow w.text)), (6, .lst 4 (l.map Wd.cs)), (7, .int .i64 l.length), (8, .int .i64 i)]) (fun i c => tokS c 9 (i * 1)) none trivial (Weak.of (by simp [EnvLe, Env.get, AVle, AVle1]) (SubN.refl _)) (by omega) (fun i x r c hok hx hw => ?_) (fun c hok hn => ?_)
  · have hi := hx.lt
    (repeat' (first | simp -dsimp -implicitDefEqProofs only [EVz, seval, ↓reduceIte, reduceCtorEq, EV6, EV7, hx.yes, hx.le0, hx.lt', hx.row, hw, hx.get] | (with_reducible intro blk hblk; (try (have hnx := hblk; simp only [EVK] at hnx; (have hne := hnx)))) | fail))
    refine app_row (n := i) (m' := (i + 1) * 1) (tok_get_cons (by assumption)) (by rw [List.length_map, List.length_take]; omega) rfl rfl rfl (by assumption) (by omega) (fun gn => ?_)
    refine LK_next hx gn trivial ?_
    simp only [hx.take, List.map_append, List.map_cons, List.map_nil, srow]
    exact Weak.rfl' _ _
  · (repeat' (simp -dsimp -implicitDefEqProofs only [EVz, seval, ↓reduceIte, reduceCtorEq, EV6, EV7, hn]))
    exact hR _ _ (Or.inl (Or.inr ⟨rfl, by rw [List.take_length, List.map_map]; rfl⟩))
theorem f211 (w row : List (List UInt8)) (hw : w.length < 1000000) (hr : row.length < 1000000) (hr0 : row ≠ []) : Pure G Tryz.prog 211 [.lst 1 (w.map srow), .lst 1 (row.map srow)] (.lst 1 ((occL row 0 0 w).map fun n : Nat => [AV.int .i64 (n : Int)])) := by
  have hl1 : 1 ≤ row.length := by cases row <;> simp_all
  have e9 : decide ((row.length : Int) = 0) = false := decide_eq_false (by omega)
  refine Pure.w c211 fun R hR => ?_
  unfold s211 r211
  (repeat' (simp -dsimp -implicitDefEqProofs only [EVz, seval, ↓reduceIte, reduceCtorEq, EV6, EV7, e9]))
  refine W_loop (ι := Nat × List Nat × Option Nat) (fun p => p.1 ≤ w.length ∧ p.2.1.length ≤ p.1 ∧ occL row 0 0 w = p.2.1 ++ occL row 0 p.1 (w.drop p.1)) (fun p => w.length + 1 - p.1) (fun p => [(0, .lst 1 (w.map srow)), (1, .lst 1 (row.map srow)), (5, .own p.2.2 3 1 (p.2.1.map fun n : Nat => [AV.int .i64 (n : Int)])), (6, .int .i64 p.1)]) (fun p => tokS p.2.2 3 (p.2.1.length * 1)) (0, [], none) ⟨by omega, by simp, by simp⟩ (Weak.of (by simp [EnvLe, Env.get, AVle, AVle1]) (SubN.refl _)) ?_
  rintro ⟨i, l, c⟩ ⟨h1, h2, h3⟩
  simp only at h1 h2 h3 ⊢
  have w2 : IntKind.i64.wrap ((i : Int) + (row.length : Int)) = ((i + row.length : Nat) : Int) := by rw [wrap_i64 (by omega) (by omega)]; omega
  by_cases hi : i + row.length ≤ w.length
  · have e0 : decide (((i + row.length : Nat) : Int) ≤ (w.length : Int)) = true := decide_eq_true (by omega)
    have w1 : IntKind.i64.wrap ((i : Int) + 1) = ((i + 1 : Nat) : Int) := wrap_up (by omega)
    have hE := f134 G ((w.drop i).take row.length) row (by rw [List.length_take]; omega)
    have hsl : List.drop i (List.take (i + row.length) (w.map srow)) = ((w.drop i).take row.length).map srow := by rw [List.drop_take, List.map_take, List.map_drop]; congr 1; omega
    rcases Classical.em ((w.drop i).take row.length = row) with hm | hm
    · rw [decide_eq_true hm] at hE
      rw [occL_hit hr0 hm, List.drop_drop] at h3
      (repeat' (first | (with_reducible refine And.intro (by omega) ?_) | (with_reducible refine CALL_pure (hE) ?_) | simp -dsimp -implicitDefEqProofs only [EVz, seval, ↓reduceIte, reduceCtorEq, EV6, EV7, e0, w1, w2, hsl] | (with_reducible intro blk hblk; (try (have hnx := hblk; simp only [EVK] at hnx; (have hne := hnx)))) | (refine ⟨[[AV.int .i64 (i : Int)]], rfl, (by simp), (by simp), ?_⟩) | (refine app_lst (by ((simp only [List.length_map] <;> exact tok_get_cons (by assumption)))) rfl rfl (by simp <;> omega) (fun gn => ?_)) | fail))
      refine ⟨(i + row.length, l ++ [i], gn), ⟨by simp only; omega, by simp only [List.length_append, List.length_cons, List.length_nil]; omega, by simp only [List.append_assoc, List.cons_append, List.nil_append]; exact h3⟩, by simp only; omega, ?_⟩
      simp only [List.map_append, List.map_cons, List.map_nil, List.length_append, List.length_map, List.length_cons, List.length_nil]
      exact Weak.rfl' _ _
    · rw [decide_eq_false hm] at hE
      rw [occL_miss hm, List.drop_drop] at h3
      (repeat' (first | (with_reducible refine And.intro (by omega) ?_) | (with_reducible refine CALL_pure (hE) ?_) | simp -dsimp -implicitDefEqProofs only [EVz, seval, ↓reduceIte, reduceCtorEq, EV6, EV7, e0, w1, w2, hsl] | fail))
      exact ⟨(i + 1, l, c), ⟨by simp only; omega, by simp only; omega, h3⟩, by simp only; omega, Weak.rfl' _ _⟩
  · have e0 : decide (((i + row.length : Nat) : Int) ≤ (w.length : Int)) = false := decide_eq_false (by omega)
    have e2 : occL row 0 i (w.drop i) = [] := occL_short (by rw [List.length_drop]; omega)
    rw [e2, List.append_nil] at h3
    (repeat' (simp -dsimp -implicitDefEqProofs only [EVz, seval, ↓reduceIte, reduceCtorEq, EV6, EV7, e0, w2]))
    exact hR _ _ (Or.inl (Or.inr ⟨rfl, by rw [h3]⟩))
end
end Go.Av
end

section
namespace Go.Av
open Go Go.RowKit Go.Proofs
set_option linter.unusedSimpArgs false
set_option linter.unusedVariables false

def prow (n : Nat) : List AV := [.int .i64 n]
section
variable (G : Glob)
theorem f173 (w : List Wd) (row : List (List UInt8)) (nth : Int) (hw : w.length < 1000000) (hr : row.length < 1000000) (hr0 : row ≠ []) (hn : 0 ≤ nth) (hn2 : nth ≤ 1000000) : Pure G Tryz.prog 173 [.lst 4 (w.map Wd.cs), .lst 1 (row.map srow), .int .i64 nth] (.lst 1 ((chosen (occs w row) nth).map fun n : Nat => [AV.int .i64 (n : Int)])) := by
  have hS := f201 G w hw
  have hF := f211 G (w.map Wd.text) row (by rw [List.length_map]; exact hw) hr hr0
  have hof : occL row 0 0 (w.map Wd.text) = occs w row := rfl
  rw [hof] at hF
  refine Pure.w c173 fun R hR => ?_
  unfold s173 r173
  obtain ⟨ps, hps⟩ : ∃ ps, occs w row = ps := ⟨_, rfl⟩
  rw [hps] at hR hF
  unfold chosen at hR
  rcases Classical.em (nth = 0) with h0 | h0
  · have e0 : decide (nth = 0) = true := decide_eq_true h0
    rw [if_pos h0] at hR
    (repeat' (first | (with_reducible refine CALL_pure (hS) ?_) | (with_reducible refine CALL_pure (hF) ?_) | simp -dsimp -implicitDefEqProofs only [EVz, seval, ↓reduceIte, reduceCtorEq, EV6, EV7, e0] | fail))
    exact hR _ _ (Or.inl (Or.inl rfl))
  · have e0 : decide (nth = 0) = false := decide_eq_false h0
    have w1 : IntKind.i64.wrap (nth - 1) = nth - 1 := wrap_i64 (by omega) (by omega)
    rw [if_neg h0] at hR
    rcases Classical.em ((ps.length : Int) < nth) with h1 | h1
    · have e1 : decide ((ps.length : Int) < nth) = true := decide_eq_true h1
      have e2 : ps[(nth - 1).toNat]? = none := List.getElem?_eq_none (by omega)
      rw [e2] at hR
      (repeat' (first | (with_reducible refine CALL_pure (hS) ?_) | (with_reducible refine CALL_pure (hF) ?_) | simp -dsimp -implicitDefEqProofs only [EVz, seval, ↓reduceIte, reduceCtorEq, EV6, EV7, e0, e1] | fail))
      exact hR _ _ (Or.inl (Or.inr rfl))
    · have e1 : decide ((ps.length : Int) < nth) = false := decide_eq_false h1
      have hlt : (nth - 1).toNat < ps.length := by omega
      have e2 : ps[(nth - 1).toNat]? = some ps[(nth - 1).toNat] := List.getElem?_eq_getElem hlt
      rw [e2] at hR
      have e3 : List.drop (nth - 1).toNat (List.take nth.toNat (ps.map fun n : Nat => [AV.int .i64 (n : Int)])) = [[AV.int .i64 ((ps[(nth - 1).toNat] : Nat) : Int)]] := by
        rw [show nth.toNat = (nth - 1).toNat + 1 by omega, List.take_add_one, List.getElem?_map, e2, List.drop_append_of_le_length (by simp; omega), List.drop_eq_nil_of_le (by simp; omega)]
        rfl
      (repeat' (first | (with_reducible refine And.intro (by omega) ?_) | (with_reducible refine CALL_pure (hS) ?_) | (with_reducible refine CALL_pure (hF) ?_) | simp -dsimp -implicitDefEqProofs only [EVz, seval, ↓reduceIte, reduceCtorEq, EV6, EV7, e0, e1, w1, e3] | fail))
      exact hR _ _ (Or.inl (Or.inl rfl))

abbrev stp4 (a b n m : Int) : List AV := [.int .i64 a, .int .i64 b, .int .i64 n, .int .i64 m]
set_option maxHeartbeats 1000000 in
theorem f153 (bs : Nat) (l : List Wd) (a b n m : Int) (hl : l.length < 1000000) (hm0 : 0 ≤ m) (hm : m < 1000000000000) :
    FnSpec G Tryz.prog 153 [.sc (.pointer (some ⟨bs, 0, none⟩)), .lst 4 (l.map Wd.cs)] [(bs, .cells 124 (stp4 a b n m))] fun r σ' => r = .lst 4 ((markW a b (l.map Wd.text) m).map Wd.cs) ∧ σ' = [(bs, .cells 124 (stp4 a b n (m + l.length)))] := by
  have hS := f201 G l hl
  have hM := f102 G (l.map Wd.text) a b m (by rw [List.length_map]; exact hl) hm0 hm
  have hml : (markW a b (l.map Wd.text) m).length = l.length := by rw [markW_len, List.length_map]
  have w1 : IntKind.i64.wrap (m + (l.length : Int)) = m + l.length := wrap_i64 (by omega) (by omega)
  refine FnSpec.w c153 ?_
  unfold s153 r153 stp4
  (repeat' (first | (with_reducible refine CALL_pure (hS) ?_) | (with_reducible refine CALL_pure (hM) ?_) | simp -dsimp -implicitDefEqProofs only [EVz, seval, ↓reduceIte, reduceCtorEq, EV6, EV7, hml, w1] | (with_reducible refine both_case ?_ ?_) | (with_reducible refine same_case ?_) | fail))
  all_goals exact RET.mk (SubN.refl _) ⟨rfl, rfl⟩
end
end Go.Av
end

section
namespace Go.Av
open Go Go.RowKit Go.Proofs
set_option linter.unusedSimpArgs false
set_option linter.unusedVariables false

section
variable (G : Glob)
end
end Go.Av
end

section
namespace Go.Av
open Go Go.RowKit Go.Proofs
set_option linter.unusedSimpArgs false
set_option linter.unusedVariables false

section
variable (G : Glob)
set_option maxHeartbeats 2000000 in
theorem f80 (bs : Nat) (a b : Int) : ∀ (u : U), u.Short → ∀ n m : Int, 0 ≤ n → 0 ≤ m → n + 1 + u.flat.length ≤ 100000000000 → m + u.wt ≤ 100000000000 →
    FnSpec G Tryz.prog 80 [.sc (.pointer (some ⟨bs, 0, none⟩)), .agg u.cs] [(bs, .cells 124 (stp4 a b n m))] fun r σ' => r = .agg (U.stamp a b u (n + 1) m).1.cs ∧
      σ' = [(bs, .cells 124 (stp4 a b ((U.stamp a b u (n + 1) m).2.1 - 1) (U.stamp a b u (n + 1) m).2.2))] := by
  refine U.ind fun u ih hs n m hn0 hm0 hnb hmb => ?_
  have hkl := hs.1.kids
  have hu := hs.2 u u.flat_self
  rw [U.flat_eq, List.length_cons] at hnb
  rw [U.wt_eq] at hmb
  have hR1 := f153 G bs u.head a b (n + 1) m hu.2.1 hm0 (by omega)
  have hR2 := f153 G bs u.words a b (n + 1) (m + u.head.length) hu.2.2.1 (by omega) (by omega)
  have w1 : IntKind.i64.wrap (n + 1) = n + 1 := wrap_i64 (by omega) (by omega)
  obtain ⟨w, hw⟩ : ∃ w, U.stamp a b u (n + 1) m = w := ⟨_, rfl⟩
  rw [hw]
  refine FnSpec.freezeK (R1 := fun σ' => σ' = [(bs, .cells 124 (stp4 a b (w.2.1 - 1) w.2.2))]) ?_
  refine FnSpec.w c80 ?_
  unfold s80 r80
  rw [U.stamp_eq] at hw
  have hfit : 0 + u.kids.length * 8 ≤ (List.replicate u.kids.length zU).flatten.length := by rw [flatRepLen]; simp [zU]
  have hfl : (u.kids.map U.cs).flatten.length = u.kids.length * 8 := by rw [flat_len _ (rows8 _), List.length_map]
  have hspl : splice (List.replicate u.kids.length zU).flatten 0 ((u.kids.map U.cs).take u.kids.length).flatten = (u.kids.map U.cs).flatten := by
    rw [List.take_of_length_le (by simp), splice_eq _ _ _ (by rw [hfl]; exact hfit), List.drop_eq_nil_of_le (by rw [hfl, flatRepLen]; simp [zU])]
    simp
  obtain ⟨n1, hn1⟩ : ∃ n1, n + 1 + 1 = n1 := ⟨_, rfl⟩
  obtain ⟨m1, hm1⟩ : ∃ m1, m + (u.head.length : Int) + (u.words.length : Int) = m1 := ⟨_, rfl⟩
  rw [hn1, hm1] at hw
  obtain ⟨S, hS⟩ : ∃ S : Nat → List U × Int × Int, S = fun i => U.stamps a b (u.kids.take i) n1 m1 := ⟨_, rfl⟩
  have hSn : ∀ i, (S i).2.1 = n1 + (U.flats (u.kids.take i)).length ∧ (S i).2.2 = m1 + U.wts (u.kids.take i) ∧ (S i).1.length = (u.kids.take i).length := fun i => by rw [hS]; exact stamps_next a b _ n1 m1
  obtain ⟨L, hL⟩ : ∃ L : Nat → List (List AV), L = fun i => ((S i).1 ++ u.kids.drop i).map U.cs := ⟨_, rfl⟩
  have hS0 : S 0 = ([], n1, m1) := by rw [hS]; simp only [List.take_zero, U.stamps_nil]
  have hL0 : (L 0).flatten = (u.kids.map U.cs).flatten := by rw [hL]; simp only [hS0, List.nil_append, List.drop_zero]
  have hst0 : stp4 a b ((S 0).2.1 - 1) (S 0).2.2 = stp4 a b (n + 1) (m + (u.head.length : Int) + (u.words.length : Int)) := by
    rw [hS0]
    show stp4 a b (n1 - 1) m1 = _
    rw [hm1, ← hn1]
    congr 1
    omega
  have hLr : ∀ i, ∀ r ∈ L i, r.length = 8 := fun i => by rw [hL]; exact rows8 _
  have hLl : ∀ i, i ≤ u.kids.length → (L i).length = u.kids.length := fun i hi => by
    rw [hL]
    simp only [List.length_map, List.length_append, List.length_drop, (hSn i).2.2, List.length_take]
    omega
  have hLf : ∀ i, i ≤ u.kids.length → (L i).flatten.length = u.kids.length * 8 := fun i hi => by rw [flat_len _ (hLr i), hLl i hi]
  rw [U.cs_eq u]
  (repeat' (first | simp -dsimp -implicitDefEqProofs only [EVz, seval, ↓reduceIte, reduceCtorEq, EV6, EV7, w1, hne] | simp -dsimp -implicitDefEqProofs only [EVz, seval, ↓reduceIte, reduceCtorEq, EV6, EV7, w1] | (with_reducible intro blk hblk; (try (have hnx := hblk; simp only [EVK] at hnx; first | (have hne := And.intro hnx hne) | (have hne := hnx)))) | (with_reducible refine both_case ?_ ?_) | (with_reducible refine same_case ?_) | (refine CALL_specN [(bs, _)] [(_, _), (_, _)] hR1.v (AVleA.rfl' _) (SubN.perm (List.perm_append_comm (l₁ := [_]) (l₂ := [_, _]))) (fun r1 σ1 h1 hne => ?_)) | (obtain ⟨rfl, rfl⟩ := h1) | (simp [Store.keys] at hne) | (refine CALL_specN [(bs, _)] [(_, _), (_, _)] hR2.v (AVleA.rfl' _) (SubN.refl _) (fun r2 σ2 h1 hne => ?_)) | (refine RAW_makeRows (elem := 27) (c := u.kids.length) (sz := 8) (bytes := 120) (zr := zU) (z := .agg #[.int .i64 0, .int .i64 0, .int .i64 0, .int .i64 0, .string .empty, .slice none 0 0, .slice none 0 0, .slice none 0 0]) rfl (by kernel_rfl) (by kernel_rfl) rfl (by omega) (by decide) (by intro τ w; simp [zU, RepL, Rep, Value.cells]; rfl) (by omega) (by omega) ?_) | (refine RAW_copyA (elem := 27) (sz := 8) (ys := u.kids.map U.cs) u.kids.length (u.kids.map U.cs).flatten (by kernel_rfl) (by kernel_rfl) rfl (if_pos rfl) (.inl ⟨rfl, rfl⟩) (by simp) hfit hspl ?_) | fail))
  all_goals
    rename_i b3 _ _ _ b4 _ _ _ _ _
    have q1 : ¬ bs = blk := fun e => hne.1.1 e.symm
    have q2 : ¬ b4 = blk := fun e => hne.1.2.1 e.symm
    have q3 : ¬ b3 = blk := fun e => hne.1.2.2 e.symm
    refine W_list u.kids (fun i r (c : Unit) => True) (fun i c => [(0, .sc (.pointer (some ⟨bs, 0, none⟩))), (3, .sc (.pointer (some ⟨b3, 0, none⟩))), (4, .sc (.pointer (some ⟨b4, 0, none⟩))), (5, .sc (.slice (some ⟨blk, 0, none⟩) u.kids.length u.kids.length)), (47, .int .i64 u.kids.length), (48, .int .i64 i)])
      (fun i c => [(blk, .cells 27 (L i).flatten), (bs, .cells 124 (stp4 a b ((S i).2.1 - 1) (S i).2.2)), (b4, .cells 27 zU), (b3, .cells 27 [.int .i64 a, .int .i64 b, .int .i64 (n + 1), .int .i64 u.kind, .str u.label, .lst 4 ((markW a b (u.head.map Wd.text) m).map Wd.cs), .lst 4 ((markW a b (u.words.map Wd.text) (m + u.head.length)).map Wd.cs), .lst 8 (u.kids.map U.cs)])]) () trivial (by rw [hL0, hst0]; exact Weak.rfl' _ _) (by omega) (fun i k r c _ hx hw => ?_) (fun c _ hn => ?_)
    · obtain ⟨s1, s2, s3⟩ := hSn i
      obtain ⟨t1, t2, t3⟩ := hSn (i + 1)
      have hil := hx.lt
      have hfl : (U.flats (u.kids.take (i + 1))).length ≤ (U.flats u.kids).length := by
        conv => rhs; rw [← List.take_append_drop (i + 1) u.kids, flats_app, List.length_append]
        omega
      have hwl : U.wts (u.kids.take (i + 1)) ≤ U.wts u.kids := by
        conv => rhs; rw [← List.take_append_drop (i + 1) u.kids, U.wts_app]
        omega
      have hfl2 : (U.flats (u.kids.take (i + 1))).length = (U.flats (u.kids.take i)).length + k.flat.length := by rw [hx.take, flats_app, flats_cons, flats_nil]; simp
      have hwl2 : U.wts (u.kids.take (i + 1)) = U.wts (u.kids.take i) + k.wt := by rw [hx.take, U.wts_app, U.wts_cons, U.wts_nil]; simp
      have hih := ih k hx.mem (hs.kid hx.mem) ((S i).2.1 - 1) (S i).2.2 (by omega) (by omega) (by omega) (by omega)
      rw [show (S i).2.1 - 1 + 1 = (S i).2.1 by omega] at hih
      have hSs : S (i + 1) = ((S i).1 ++ [(U.stamp a b k (S i).2.1 (S i).2.2).1], (U.stamp a b k (S i).2.1 (S i).2.2).2) := by
        simp only [hS]
        rw [hx.take, stamps_app]
      have hgk : (L i)[i]? = some k.cs := by
        rw [hL]
        simp only [List.getElem?_map]
        rw [List.getElem?_append_right (by rw [s3, List.length_take]; omega), s3, List.length_take, Nat.min_eq_left (by omega), Nat.sub_self, List.getElem?_drop, Nat.add_zero, List.getElem?_eq_getElem hil, ← hx.get k]
        simp [hil]
      have hgt : ((L i).flatten.drop (0 + i * 8)).take 8 = k.cs := by simpa using row_get (pad := []) (hLr i) hgk
      have hle8 : 8 ≤ ((L i).flatten.drop (0 + i * 8)).length := by rw [List.length_drop, hLf i (by omega)]; omega
      have hLs : L (i + 1) = (L i).set i (U.stamp a b k (S i).2.1 (S i).2.2).1.cs := by
        have h3 : u.kids.drop i = k :: u.kids.drop (i + 1) := by
          rw [List.drop_eq_getElem_cons hil]
          congr 1
          simpa [hil] using hx.get k
        have htl : (S i).1.length = i := by rw [s3, List.length_take]; omega
        rw [hL]
        simp only [hSs]
        rw [h3]
        simp only [List.map_append, List.map_cons, List.map_nil]
        rw [List.set_append_right _ _ (by simp [htl])]
        simp [htl]
      have hset : splice (L i).flatten (0 + i * 8) (U.stamp a b k (S i).2.1 (S i).2.2).1.cs = (L (i + 1)).flatten := by
        rw [hLs]
        rw [Nat.zero_add]
        simpa using row_set (pad := []) (hLr i) (by rw [hLl i (by omega)]; omega) (U.cs_len _)
      have hlf := hLf i (by omega)
      (repeat' (first | (with_reducible refine And.intro (by omega) ?_) | simp -dsimp -implicitDefEqProofs only [EVz, seval, ↓reduceIte, reduceCtorEq, EV6, EV7, hx.yes, hx.le0, hx.lt', hx.get, hw, hgt, q1, q2, q3, hset, hne] | (refine CALL_specN [(bs, _)] [(blk, _), (b4, _), (b3, _)] hih.v (AVleA.rfl' _) (SubN.perm (List.Perm.swap _ _ _)) (fun r1 σ1 h1 hne2 => ?_)) | (obtain ⟨rfl, rfl⟩ := h1) | fail))
      all_goals
        refine LK_next hx () trivial ?_
        rw [hSs]
        exact Weak.sub (SubN.perm (List.Perm.swap _ _ _))
    · have hnS : S u.kids.length = U.stamps a b u.kids n1 m1 := by simp only [hS]; rw [List.take_length]
      have hLn : L u.kids.length = (U.stamps a b u.kids n1 m1).1.map U.cs := by rw [hL]; simp only [hnS, List.drop_length, List.append_nil]
      have hkn : (U.stamps a b u.kids n1 m1).1.length = u.kids.length := (stamps_next a b u.kids n1 m1).2.2
      have p1 : ¬ blk = b4 := hne.1.2.1
      have p2 : ¬ blk = b3 := hne.1.2.2
      have p3 : ¬ bs = b4 := hne.2.1.1
      have p4 : ¬ bs = b3 := hne.2.1.2
      have p5 : ¬ b4 = b3 := hne.2.2
      (repeat' (simp -dsimp -implicitDefEqProofs only [EVz, seval, ↓reduceIte, reduceCtorEq, EV6, EV7, hn, q1, q2, q3, p1, p2, p3, p4, p5, hne]))
      refine RET.mk' (σ' := [(blk, .cells 27 (L u.kids.length).flatten)] ++ [(bs, .cells 124 (stp4 a b ((S u.kids.length).2.1 - 1) (S u.kids.length).2.2))]) (SubN.left (σ := [_, _]) (τ := [_, _])) ⟨_, _, _, rfl, ?_, rfl, ?_⟩
      · rw [← hw, U.cs_eq]
        exact ⟨.inl rfl, .inl rfl, .inl rfl, .inl rfl, .inl rfl, .inl rfl, .inl rfl, .inr ⟨27, 8, L u.kids.length, _, OpenL.mk0 (hLl _ (Nat.le_refl _)).symm (by rw [hLl _ (Nat.le_refl _)]; unfold maxLen; omega) (hLr _), fun q hq => hq, by rw [hLn]⟩, trivial⟩
      · rw [hnS, ← hw]
theorem f43 (u : U) (a b : Int) (hs : u.Short) (hw : u.wt ≤ 90000000000) : Pure G Tryz.prog 43 [.agg u.cs, .int .i64 a, .int .i64 b] (.agg (stampU u a b).cs) := by
  have hc := hs.1.2
  refine Pure.w c43 fun R hR => ?_
  unfold s43 r43
  (repeat' (first | simp -dsimp -implicitDefEqProofs only [EVz, seval, ↓reduceIte, reduceCtorEq, EV6, EV7, hne] | simp -dsimp -implicitDefEqProofs only [EVz, seval, ↓reduceIte, reduceCtorEq, EV6, EV7] | (with_reducible intro blk hblk; (try (have hnx := hblk; simp only [EVK] at hnx; first | (have hne := And.intro hnx hne) | (have hne := hnx)))) | (refine CALL_specN [(_, _)] [(_, _)] (f80 G _ a b u hs 0 0 (by omega) (by omega) (by omega) (by omega)).v (AVleA.rfl' _) (SubN.refl _) (fun r1 σ1 h1 hne => ?_)) | (obtain ⟨rfl, rfl⟩ := h1) | (simp [Store.keys] at hne) | fail))
  exact RET.eq hR rfl
end
end Go.Av
end

section
namespace Go.Av
open Go Go.RowKit Go.Proofs
set_option linter.unusedSimpArgs false
set_option linter.unusedVariables false

section
variable (G : Glob)
theorem f166k (σ : Store) (f : Value) (p : Idd → Bool) (l : List Idd) (hl : l.length < 9000000000000000000) (hf : ∀ x ∈ l, VSpec G Tryz.prog f [.agg x.cs] σ fun r σ' => r = .bool (p x) ∧ σ' = σ) :
    FnSpec G Tryz.prog 166 [.lst 3 (l.map Idd.cs), .sc f] σ fun r σ' => r = .int .i64 (idxF p 0 l) ∧ σ' = σ := by
  refine FnSpec.wk c166 fun R hR => ?_
  unfold s166 r166
  simp only [Idd.cs] at hf
  (repeat' (first | (with_reducible (refine split_case (fun h => ?_) (fun h => ?_)) <;> (try simp only [Da, Db, Dc, Dw, De, Df, Dg, Dh] at h)) | simp -dsimp -implicitDefEqProofs only [EVz, seval, ↓reduceIte, reduceCtorEq, EV6, EV7, hx.yes, hx.le0, hx.lt', hx.get, hx.row, hw] | simp -dsimp -implicitDefEqProofs only [EVz, seval, ↓reduceIte, reduceCtorEq, EV6, EV7, hn] | simp -dsimp -implicitDefEqProofs only [EVz, seval, ↓reduceIte, reduceCtorEq, EV6, EV7] | (refine LK_next hx () ?_ (Weak.rfl' _ _)) | (refine W_list l (fun i r (c : Unit) => idxF p 0 l = idxF p i r) (fun i c => [(0, .lst 3 (l.map Idd.cs)), (1, .sc f), (7, .int .i64 l.length), (8, .int .i64 i)]) (fun _ _ => σ) () rfl (Weak.rfl' _ _) (by omega) (fun i x r c hok hx hw => ?_) (fun c hok hn => ?_)) | (refine CALL_keep (hf _ hx.mem) ?_) | fail))
  · refine hR _ _ (.inl (.inl ?_)) (SubN.refl _)
    rw [hok, idxF, if_pos h]
  · rw [hok, idxF, h]; rfl
  · refine hR _ _ (.inl (.inl ?_)) (SubN.refl _)
    rw [hok]; rfl
theorem f91k (σ : Store) (f : Value) (p : Idd → Bool) (l : List Idd) (hl : l.length < 9000000000000000000) (hf : ∀ x ∈ l, VSpec G Tryz.prog f [.agg x.cs] σ fun r σ' => r = .bool (p x) ∧ σ' = σ) :
    FnSpec G Tryz.prog 91 [.lst 3 (l.map Idd.cs), .sc f] σ fun r σ' => r = .bool (l.any p) ∧ σ' = σ := by
  refine FnSpec.wk c91 fun R hR => ?_
  unfold s91 r91
  have hI := f166k G σ f p l hl hf
  (repeat' (first | simp -dsimp -implicitDefEqProofs only [EVz, seval, ↓reduceIte, reduceCtorEq, EV6, EV7] | (refine CALL_keep hI.v ?_) | fail))
  exact hR _ _ (.inl (.inl (congrArg AV.bool (idxF_ge p l 0)))) (SubN.refl _)
theorem f167 (l : List Idd) (k : Idd) (hl : l.length < 9000000000000000000) : Pure G Tryz.prog 167 [.lst 3 (l.map Idd.cs), .agg k.cs] (.int .i64 (idxF (fun x => decide (k = x)) 0 l)) := by
  refine Pure.w c167 fun R hR => ?_
  unfold s167 r167
  (repeat' (first | (with_reducible (refine split_case (fun h => ?_) (fun h => ?_)) <;> (try simp only [Da, Db, Dc, Dw, De, Df, Dg, Dh] at h)) | simp -dsimp -implicitDefEqProofs only [EVz, seval, ↓reduceIte, reduceCtorEq, EV6, EV7, idd_eq, hx.yes, hx.le0, hx.lt', hx.get, hx.row, hw] | simp -dsimp -implicitDefEqProofs only [EVz, seval, ↓reduceIte, reduceCtorEq, EV6, EV7, idd_eq, hn] | simp -dsimp -implicitDefEqProofs only [EVz, seval, ↓reduceIte, reduceCtorEq, EV6, EV7, idd_eq] | (refine LK_next hx () ?_ (Weak.rfl' _ _)) | (refine W_list (l) (fun i r (c : Unit) => idxF (fun x => decide (k = x)) 0 l = idxF (fun x => decide (k = x)) i r) (fun i c => [(0, .lst 3 (l.map Idd.cs)), (3, .ref k.cs), (7, .int .i64 l.length), (8, .int .i64 i)]) (fun _ _ => []) () (by rfl) (Weak.rfl' _ _) (by omega) (fun i x r c hok hx hw => ?_) (fun c hok hn => ?_) ) | fail))
  · refine RET.eq hR ?_
    rw [hok, idxF, if_pos (decide_eq_true h)]
  · rw [hok, idxF, if_neg (by simpa using h)]
  · refine RET.eq hR ?_
    rw [hok]; rfl
theorem f93 (l : List Idd) (k : Idd) (hl : l.length < 9000000000000000000) : Pure G Tryz.prog 93 [.lst 3 (l.map Idd.cs), .agg k.cs] (.bool (decide (k ∈ l))) := by
  have hI := f167 G l k hl
  simp only [Idd.cs] at hI
  refine Pure.w c93 fun R hR => ?_
  unfold s93 r93
  (repeat' (first | (with_reducible refine CALL_pure (hI) ?_) | simp -dsimp -implicitDefEqProofs only [EVz, seval, ↓reduceIte, reduceCtorEq, EV6, EV7] | fail))
  refine RET.eq hR (congrArg AV.bool ?_)
  rw [idxF_ge, Bool.eq_iff_iff, List.any_eq_true, decide_eq_true_eq]
  constructor
  · rintro ⟨x, hx, hd⟩; rw [of_decide_eq_true hd]; exact hx
  · intro h; exact ⟨k, h, decide_eq_true rfl⟩
theorem f92 (b : Nat) (l : List Idd) (k : Idd) (hl : l.length < 9000000000000000000) : FnSpec G Tryz.prog 92 [.agg k.cs, .sc (.pointer (some ⟨b, 0, none⟩))] [(b, .cells 70 [.lst 3 (l.map Idd.cs)])] fun r σ' => r = .bool (decide (k ∈ l)) ∧ σ' = [(b, .cells 70 [.lst 3 (l.map Idd.cs)])] := by
  have hC := f93 G l k hl
  simp only [Idd.cs] at hC
  refine FnSpec.wk c92 fun R hR => ?_
  unfold s92 r92
  (repeat' (first | (with_reducible refine CALL_pure (hC) ?_) | simp -dsimp -implicitDefEqProofs only [EVz, seval, ↓reduceIte, reduceCtorEq, EV6, EV7] | fail))
  exact hR _ _ (AVle.rfl' _) (SubN.refl _)
theorem f164 (b : Nat) (x k : U) : FnSpec G Tryz.prog 164 [.agg k.cs, .sc (.pointer (some ⟨b, 0, none⟩))] [(b, .cells 27 x.cs)] fun r σ' => r = .bool (decide (k.kind = x.kind) && decide (k.label = x.label)) ∧ σ' = [(b, .cells 27 x.cs)] := by
  refine FnSpec.wk c164 fun R hR => ?_
  unfold s164 r164
  rw [U.cs_eq x] at hR ⊢
  (repeat' (first | (with_reducible (refine gd_case (fun h => ?_) (fun h => ?_)) <;> (try simp only [Da, Db, Dc, Dw, De, Df, Dg, Dh] at h)) | simp -dsimp -implicitDefEqProofs only [EVz, seval, ↓reduceIte, reduceCtorEq, EV6, EV7] | fail))
  all_goals (refine hR _ _ (.inl (.inl (congrArg AV.bool ?_))) (SubN.refl _); simp [*])
variable (hG : GOk G)
include hG
theorem f89 (p x : U) (hp : p.kids.length < 1000000) : Pure G Tryz.prog 89 [.agg p.cs, .agg x.cs] (.int .i64 (takes p p.kids x)) := by
  have hC := f86 G hG p.kind x.kind
  refine Pure.w c89 fun R hR => ?_
  unfold s89 r89
  unfold takes taken at hR
  rw [U.cs_eq p, U.cs_eq x]
  cases hn : nests p.kind x.kind with
  | false =>
    rw [hn] at hC hR
    (repeat' (first | (with_reducible refine CALL_pure (hC) ?_) | simp -dsimp -implicitDefEqProofs only [EVz, seval, ↓reduceIte, reduceCtorEq, EV6, EV7, hne] | simp -dsimp -implicitDefEqProofs only [EVz, seval, ↓reduceIte, reduceCtorEq, EV6, EV7] | (with_reducible intro blk hblk; (try (have hnx := hblk; simp only [EVK] at hnx; (have hne := hnx)))) | fail))
    all_goals exact hR _ _ (.inl (.inl rfl))
  | true =>
    rw [hn] at hC hR
    simp only [Bool.true_eq_false, if_false] at hR
    (repeat' (first | (with_reducible refine CALL_pure (hC) ?_) | simp -dsimp -implicitDefEqProofs only [EVz, seval, ↓reduceIte, reduceCtorEq, EV6, EV7, hne] | simp -dsimp -implicitDefEqProofs only [EVz, seval, ↓reduceIte, reduceCtorEq, EV6, EV7] | (with_reducible intro blk hblk; (try (have hnx := hblk; simp only [EVK] at hnx; (have hne := hnx)))) | fail))
    have hF := f163k G [(blk, .cells 27 x.cs)] (.func (.func 164) #[] #[.pointer (some ⟨blk, 0, none⟩)]) (fun k => decide (k.kind = x.kind) && decide (k.label = x.label)) p.kids (by omega)
      (fun y hy => ⟨_, _, _, rfl, f164 G blk x y⟩)
    rw [U.cs_eq x] at hF
    cases ht : (p.kids.any fun k => decide (k.kind = x.kind) && decide (k.label = x.label)) with
    | false =>
      rw [ht] at hF hR
      (repeat' (first | simp -dsimp -implicitDefEqProofs only [EVz, seval, ↓reduceIte, reduceCtorEq, EV6, EV7, hne] | (refine CALL_keep hF.v ?_) | fail))
      all_goals exact hR _ _ (.inl (.inl rfl))
    | true =>
      rw [ht] at hF hR
      (repeat' (first | simp -dsimp -implicitDefEqProofs only [EVz, seval, ↓reduceIte, reduceCtorEq, EV6, EV7, hne] | (refine CALL_keep hF.v ?_) | fail))
      all_goals exact hR _ _ (.inl (.inl rfl))
omit hG
theorem f90 (u : U) (q : Idd) (x : U) (ht : u.Tame) (hx : x.Tame) : Pure G Tryz.prog 90 [.agg u.cs, .agg q.cs, .agg x.cs] (.bool (decide (8 < (((anc q u).length : Int) + 1 + x.dep)))) := by
  have hA := f165 G q u ht
  have hD := f54 G x hx
  simp only [Idd.cs] at hA
  have h1 : (anc q u).length ≤ u.flat.length := by
    unfold anc
    rw [List.length_reverse, List.length_map, List.length_dropLast]
    have := way_len q u
    omega
  have h2 := ht.2
  have h3 := x.dep_cnt
  have h4 := hx.2
  have h5 := x.dep_ge
  unfold U.cnt at h3
  have w1 : IntKind.i64.wrap (((anc q u).length : Int) + 1) = ((anc q u).length : Int) + 1 := wrap_i64 (by omega) (by omega)
  have w2 : IntKind.i64.wrap (((anc q u).length : Int) + 1 + x.dep) = ((anc q u).length : Int) + 1 + x.dep := wrap_i64 (by omega) (by omega)
  refine Pure.w c90 fun R hR => ?_
  unfold s90 r90
  (repeat' (first | (with_reducible refine CALL_pure (hA) ?_) | (with_reducible refine CALL_pure (hD) ?_) | simp -dsimp -implicitDefEqProofs only [EVz, seval, ↓reduceIte, reduceCtorEq, EV6, EV7, w1, w2] | fail))
  all_goals exact hR _ _ (.inl (.inl rfl))
end
end Go.Av
end
