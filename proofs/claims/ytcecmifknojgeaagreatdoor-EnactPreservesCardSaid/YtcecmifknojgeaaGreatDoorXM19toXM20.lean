/-
  ENACT, M19: words put at places, by the program.
-/
import Derived.Test.YtcecmifknojgeaaGreatDoorXM12toXM21
import Derived.Test.YtcecmifknojgeaaGreatDoorXM15
import Derived.Test.YtcecmifknojgeaaGreatDoorXM17toXM11
section
namespace Go.Av
open Go Go.RowKit Go.Proofs
set_option linter.unusedSimpArgs false
set_option linter.unusedVariables false

theorem putL_len (w : List Wd) (fresh : List (List UInt8)) (a b : Int) (gone : Nat) : ∀ (ps : List Nat) (s : Nat) (m : Int), Gaps w.length gone s ps → s ≤ w.length → (putL w fresh a b gone ps m).length ≤ w.length + ps.length * fresh.length ∧ ∀ p r, ps = p :: r → p + gone ≤ (putL w fresh a b gone r (m + fresh.length)).length
  | [], s, m, _, _ => by rw [putL]; simp
  | p :: ps, s, m, ⟨h1, h2, h3⟩, hs => by
    have ih := putL_len w fresh a b gone ps (p + gone) (m + fresh.length) h3 (by omega)
    have e := putL_edit w fresh a b gone ps (p + gone) (m + fresh.length) h3
    have hge : p + gone ≤ (putL w fresh a b gone ps (m + fresh.length)).length := by
      rw [e, List.length_append, List.length_take]; omega
    refine ⟨?_, ?_⟩
    · rw [putL, List.length_append, List.length_append, List.length_take, List.length_drop, markW_len, List.length_cons, Nat.add_mul]
      have := ih.1
      omega
    · rintro q r hq
      injection hq with hq1 hq2
      subst hq1 hq2
      exact hge
theorem gaps_drop {n g : Nat} : ∀ {ps : List Nat} {s : Nat} (j : Nat), s ≤ n → Gaps n g s ps → ∃ s', s' ≤ n ∧ Gaps n g s' (ps.drop j)
  | [], s, j, hs, _ => ⟨s, hs, by rw [List.drop_nil]; trivial⟩
  | p :: ps, s, 0, hs, h => ⟨s, hs, h⟩
  | p :: ps, s, j + 1, hs, ⟨h1, h2, h3⟩ => gaps_drop (ps := ps) j h2 h3
def putAV (q : List Wd) : AV := if 256 < q.length then .tup [.nil, .int .i64 6] else .tup [.lst 4 (q.map Wd.cs), .int .i64 0]

section
variable (G : Glob)
set_option maxHeartbeats 2000000 in
theorem f174 (w : List Wd) (ps : List Nat) (gone : Nat) (fresh : List (List UInt8)) (a b : Int) (hw : w.length ≤ 100000) (hps : ps.length ≤ 100000) (hfr : fresh.length ≤ 1000) (hgp : gone ≤ 100000) (hG : Gaps w.length gone 0 ps) :
    Pure G Tryz.prog 174 [.lst 4 (w.map Wd.cs), .lst 1 (ps.map prow), .int .i64 gone, .lst 1 (fresh.map srow), .int .i64 a, .int .i64 b] (putAV (putL w fresh a b gone ps 0)) := by
  refine FnSpec.freezeT ?_
  refine FnSpec.w c174 ?_
  unfold s174 r174
  have hfit : 0 + w.length * 4 ≤ (List.replicate w.length [AV.str [], .int .i64 0, .int .i64 0, .int .i64 0]).flatten.length := by rw [flatRepLen]; simp
  have hfl : (w.map Wd.cs).flatten.length = w.length * 4 := by rw [flat_len _ (rows4 _), List.length_map]
  have hspl : splice (List.replicate w.length [AV.str [], .int .i64 0, .int .i64 0, .int .i64 0]).flatten 0 ((w.map Wd.cs).take w.length).flatten = (w.map Wd.cs).flatten := by
    rw [List.take_of_length_le (by simp), splice_eq _ _ _ (by rw [hfl]; exact hfit), List.drop_eq_nil_of_le (by rw [hfl, flatRepLen]; simp)]
    simp
  have wn : IntKind.i64.wrap ((ps.length : Int) - 1) = (ps.length : Int) - 1 := wrap_i64 (by omega) (by omega)
  (repeat' (first | simp -dsimp -implicitDefEqProofs only [EVz, seval, ↓reduceIte, reduceCtorEq, EV6, EV7, wn, hne] | simp -dsimp -implicitDefEqProofs only [EVz, seval, ↓reduceIte, reduceCtorEq, EV6, EV7, wn] | (with_reducible intro blk hblk; (try (have hnx := hblk; simp only [EVK] at hnx; (have hne := hnx)))) | (refine RAW_makeRows (elem := 64) (c := w.length) (sz := 4) (bytes := 40) (zr := [.str [], .int .i64 0, .int .i64 0, .int .i64 0]) (z := .agg #[.string .empty, .int .i64 0, .int .i64 0, .int .i64 0]) rfl (by kernel_rfl) (by kernel_rfl) rfl (by omega) (by decide) (by intro τ w; simp [RepL, Rep, Value.cells]; rfl) (by omega) (by omega) ?_) | (refine RAW_copyA (elem := 64) (sz := 4) (ys := w.map Wd.cs) w.length (w.map Wd.cs).flatten (by kernel_rfl) (by kernel_rfl) rfl (if_pos rfl) (.inl ⟨rfl, rfl⟩) (by simp) hfit hspl ?_) | fail))
  clear hfit hspl
  obtain ⟨L, hL⟩ : ∃ L : Nat → List Wd, L = fun j => putL w fresh a b gone (ps.drop j) ((j * fresh.length : Nat) : Int) := ⟨_, rfl⟩
  have hLn : L ps.length = w := by rw [hL]; simp only [List.drop_length]; rw [putL]
  have hL0 : L 0 = putL w fresh a b gone ps 0 := by rw [hL]; simp
  have hLl : ∀ j, (L j).length ≤ 100100000 := fun j => by
    obtain ⟨s', hs', hg⟩ := gaps_drop (g := gone) j (Nat.zero_le _) hG
    have := (putL_len w fresh a b gone (ps.drop j) s' ((j * fresh.length : Nat) : Int) hg hs').1
    have h2 : (ps.drop j).length * fresh.length ≤ 100000 * 1000 := Nat.mul_le_mul (by rw [List.length_drop]; omega) hfr
    rw [hL]
    simp only
    omega
  have hLs : ∀ i p, ps[i]? = some p → L i = (L (i + 1)).take p ++ (markW a b fresh ((i * fresh.length : Nat) : Int) ++ (L (i + 1)).drop (p + gone)) ∧ p + gone ≤ (L (i + 1)).length := fun i p hp => by
    obtain ⟨hi, hp⟩ := List.getElem?_eq_some_iff.1 hp
    have hd : ps.drop i = p :: ps.drop (i + 1) := by rw [List.drop_eq_getElem_cons hi, hp]
    obtain ⟨s', hs', hg⟩ := gaps_drop (g := gone) i (Nat.zero_le _) hG
    have h1 := (putL_len w fresh a b gone (ps.drop i) s' ((i * fresh.length : Nat) : Int) hg hs').2 p _ hd
    have hm : ((i * fresh.length : Nat) : Int) + fresh.length = (((i + 1) * fresh.length : Nat) : Int) := by rw [Nat.add_mul]; omega
    rw [hm] at h1
    rw [hL]
    simp only
    refine ⟨?_, h1⟩
    rw [hd, putL, hm]
  rw [← hL0]
  refine W_loop (ι := Nat × Nat × Nat × List AV) (fun q => q.1 ≤ ps.length ∧ RowsAt 4 q.2.2.2 0 (L q.1).length ((L q.1).map Wd.cs) ∧ q.2.2.1 * 4 ≤ q.2.2.2.length ∧ (L q.1).length ≤ q.2.2.1 ∧ q.2.2.1 ≤ maxLen) (fun q => q.1)
    (fun q => [(1, .lst 1 (ps.map prow)), (2, .int .i64 gone), (3, .lst 1 (fresh.map srow)), (4, .int .i64 a), (5, .int .i64 b), (14, .sc (.slice (some ⟨q.2.1, 0, none⟩) (L q.1).length q.2.2.1)), (15, .int .i64 ((q.1 : Int) - 1))])
    (fun q => [(q.2.1, .cells 64 q.2.2.2)]) (ps.length, blk, w.length, (w.map Wd.cs).flatten) ⟨Nat.le_refl _, ?_, ?_, ?_, ?_⟩ (by simp only [hLn]; exact Weak.rfl' _ _) ?_
  · simp only [hLn]
    have := RowsAt.all (sz := 4) (rows := w.map Wd.cs) (pad := []) (rows4 _) (n := w.length) (by simp)
    simpa using this
  · simp only [hfl]; exact Nat.le_refl _
  · simp only [hLn]; exact Nat.le_refl _
  · simp only; unfold maxLen; omega
  clear hne
  rintro ⟨j, b1, cap, cs⟩ ⟨hj, hR, hcap, hle, hcm⟩
  simp only at hj hR hcap hle hcm ⊢
  cases j with
  | zero =>
    have e0 : decide ((0 : Int) ≤ ((0 : Nat) : Int) - 1) = false := by decide
    have hll := hLl 0
    (repeat' (first | (with_reducible (refine split_case (fun h => ?_) (fun h => ?_)) <;> (try simp only [Da, Db, Dc, Dw, De, Df, Dg, Dh] at h)) | simp -dsimp -implicitDefEqProofs only [EVz, seval, ↓reduceIte, reduceCtorEq, EV6, EV7, e0] | fail))
    · refine RET.mk' (SubN.nil _) (.inl ⟨?_, rfl⟩)
      unfold putAV
      rw [if_pos (by omega)]
    · refine RET.mk' (SubN.refl _) (.inr ⟨b1, _, _, cap, cs, 4, _, _, rfl, rfl, hR, hle, hcm, ?_, rfl⟩)
      unfold putAV
      rw [if_neg (by omega)]
  | succ i =>
    obtain ⟨p, hp⟩ : ∃ p, ps[i]? = some p := ⟨ps[i]'(by omega), List.getElem?_eq_getElem (by omega)⟩
    obtain ⟨hLi, hge⟩ := hLs i p hp
    have hgp0 : (ps.map prow).getD i [] = [AV.int .i64 (p : Int)] := by simp [hp, prow]
    have e0 : decide ((0 : Int) ≤ (((i + 1 : Nat) : Int)) - 1) = true := decide_eq_true (by omega)
    have hi1 : (((i + 1 : Nat) : Int)) - 1 = (i : Int) := by omega
    have hll := hLl (i + 1)
    have wg : IntKind.i64.wrap ((p : Int) + (gone : Int)) = ((p + gone : Nat) : Int) := by rw [wrap_i64 (by omega) (by omega)]; omega
    have hmm : i * fresh.length ≤ 100000 * 1000 := Nat.mul_le_mul (by omega) hfr
    have wm : IntKind.i64.wrap ((i : Int) * (fresh.length : Int)) = ((i * fresh.length : Nat) : Int) := by rw [← Int.natCast_mul, wrap_i64 (by omega) (by omega)]
    have w1 : IntKind.i64.wrap ((i : Int) - 1) = (i : Int) - 1 := wrap_i64 (by omega) (by omega)
    have hM := f102 G fresh a b ((i * fresh.length : Nat) : Int) (by omega) (by omega) (by omega)
    obtain ⟨mk, hmk⟩ : ∃ mk, markW a b fresh ((i * fresh.length : Nat) : Int) = mk := ⟨_, rfl⟩
    have hmkl : mk.length = fresh.length := by rw [← hmk, markW_len]
    rw [hmk] at hLi hM
    obtain ⟨Lj, hLj⟩ : ∃ Lj, L (i + 1) = Lj := ⟨_, rfl⟩
    rw [hLj] at hLi hge hR hle hll
    simp only [hLj, hi1] at e0 ⊢
    obtain ⟨o2, ho2⟩ : ∃ o2, (if cap = p + gone then 0 else 0 + (p + gone) * 4) = o2 := ⟨_, rfl⟩
    have hlc : Lj.length ≤ cap := hle
    have ilt : (i : Int) < (ps.length : Int) := by omega
    have ho3 : o2 = (p + gone) * 4 ∨ p + gone = Lj.length ∧ o2 = 0 := by
      subst ho2
      split
      · exact .inr ⟨by omega, rfl⟩
      · exact .inl (by omega)
    obtain ⟨A, hA⟩ : ∃ A, (Lj.map Wd.cs).take p = A := ⟨_, rfl⟩
    obtain ⟨B, hB⟩ : ∃ B, (Lj.map Wd.cs).drop (p + gone) = B := ⟨_, rfl⟩
    have hRA := hR.pre (l := p) (by omega)
    have hRB := hR.suf hge ho3
    rw [hA] at hRA
    rw [hB] at hRB
    have hBl : B.length ≤ 100100000 := by rw [← hB, List.length_drop, List.length_map]; omega
    have hBr := hRB.row
    have hmap : (L i).map Wd.cs = A ++ (mk.map Wd.cs ++ B) := by rw [hLi, List.map_append, List.map_append, List.map_take, List.map_drop, hA, hB]
    have hAl : A.length = p := hRA.len
    have hlen : (L i).length = p + (mk.length + B.length) := by
      have := congrArg List.length hmap
      rw [List.length_map, List.length_append, List.length_append, List.length_map, hAl] at this
      exact this
    obtain ⟨z0, hz0, hz1⟩ : ∃ z0, zeroT Tryz.prog 64 = some z0 ∧ z0.length = 4 := ⟨[.str [], .int .i64 0, .int .i64 0, .int .i64 0], by kernel_rfl, rfl⟩
    rcases Classical.em (mk = []) with hm0 | hm0
    · subst hm0
      simp only [List.map_nil, List.nil_append, List.length_nil, Nat.zero_add] at hmap hlen hM
      (repeat' (first | (with_reducible refine And.intro (by omega) ?_) | (with_reducible refine CALL_pure (hM) ?_) | simp -dsimp -implicitDefEqProofs only [EVz, seval, ↓reduceIte, reduceCtorEq, EV6, EV7, e0, hgp0, wg, wm, w1] | (with_reducible refine both_case ?_ ?_) | (with_reducible refine same_case ?_) | (refine RAW_sliceH (e := 64) (sz := 4) (l := p + gone) (h := Lj.length) (m := cap) o2 (Lj.length - (p + gone)) (cap - (p + gone)) (by kernel_rfl) (by kernel_rfl) rfl ⟨_, rfl⟩ rfl rfl (fun h => by cases h) hge hle (Nat.le_refl _) ho2 rfl rfl ?_) | (refine RAW_sliceH (e := 64) (sz := 4) (l := 0) (h := p) (m := p) 0 p p (by kernel_rfl) (by kernel_rfl) rfl rfl ⟨_, rfl⟩ ⟨_, rfl⟩ (fun _ => rfl) (by omega) (by omega) (by omega) (by split <;> rfl) rfl rfl ?_) | (refine RAW_append0 (e := 64) (e' := 64) (sz := 4) (bytes := 40) (b := b1) (n := p) (cap := p) (rows := A) (cs := cs) (z := z0) (by kernel_rfl) (by kernel_rfl) (by kernel_rfl) hz0 hz1 (by decide) (by decide) rfl (if_pos rfl) hRA (by omega) (Nat.le_refl _) (.inl ⟨rfl, rfl⟩) (by omega) ?_) | (refine RAW_appendR (e := 64) (e' := 64) (sz := 4) (bytes := 40) (b := b1) (n := p) (cap := p) (rows := A) (ys := B) (cs := cs) (z := z0) (by kernel_rfl) (by kernel_rfl) (by kernel_rfl) hz0 hz1 (by decide) (by decide) rfl (if_pos rfl) hRA (by omega) (by omega) (.inr ⟨b1, o2, _, _, 64, cs, rfl, if_pos rfl, hRB⟩) hBr (by omega) (fun b' cap' cs' σ' g1 g2 g3 g4 g5 => ?_)) | fail))
      all_goals
        refine ⟨(i, b', cap', cs'), ⟨by simp only; omega, ?_, g2, ?_, g4⟩, Nat.lt_succ_self i, ?_⟩
        · simp only [hmap, hlen]; exact g1
        · simp only [hlen]; exact g3
        · simp only [hlen]
          refine Weak.sub ?_
          rcases g5 with ⟨rfl, rfl⟩ | ⟨_, rfl⟩
          · simp only [Store.set, if_true]
            exact SubN.refl _
          · exact SubN.cons (SubN.nil _) _
    · obtain ⟨M, hMM⟩ : ∃ M, mk.map Wd.cs = M := ⟨_, rfl⟩
      have hMl : M.length = mk.length := by rw [← hMM, List.length_map]
      have hm1 : 1 ≤ mk.length := List.length_pos_iff.2 hm0
      have hm2 : mk.length ≤ 1000 := by omega
      rw [hMM] at hM hmap
      (repeat' (first | (with_reducible refine And.intro (by omega) ?_) | (with_reducible refine CALL_pure (hM) ?_) | simp -dsimp -implicitDefEqProofs only [EVz, seval, ↓reduceIte, reduceCtorEq, EV6, EV7, e0, hgp0, wg, wm, w1] | (with_reducible refine both_case ?_ ?_) | (with_reducible refine same_case ?_) | (refine RAW_sliceH (e := 64) (sz := 4) (l := p + gone) (h := Lj.length) (m := cap) o2 (Lj.length - (p + gone)) (cap - (p + gone)) (by kernel_rfl) (by kernel_rfl) rfl ⟨_, rfl⟩ rfl rfl (fun h => by cases h) hge hle (Nat.le_refl _) ho2 rfl rfl ?_) | (refine RAW_sliceH (e := 64) (sz := 4) (l := 0) (h := p) (m := p) 0 p p (by kernel_rfl) (by kernel_rfl) rfl rfl ⟨_, rfl⟩ ⟨_, rfl⟩ (fun _ => rfl) (by omega) (by omega) (by omega) (by split <;> rfl) rfl rfl ?_) | (refine RAW_appendG (e := 64) (e' := 64) (sz := 4) (bytes := 40) (b := b1) (o := 0) (n := p) (cap := p) (rows := A) (ys := M) (cs := cs) (z := z0) (by kernel_rfl) (by kernel_rfl) (by kernel_rfl) hz0 hz1 (by decide) (by decide) rfl (if_pos rfl) hRA (by omega) (.inl ⟨rfl, rfl⟩) (by omega) (fun h => by omega) (fun _ b2 cap2 pad2 f0 f1 f2 f3 f4 => ?_)) | (refine RAW_appendR (e := 64) (e' := 64) (sz := 4) (bytes := 40) (b := b2) (n := p + M.length) (cap := cap2) (rows := A ++ M) (ys := B) (cs := (A ++ M).flatten ++ pad2) (z := z0) (by kernel_rfl) (by kernel_rfl) (by kernel_rfl) hz0 hz1 (by decide) (by decide) rfl (if_pos rfl) (RowsAt.all f3 (by rw [List.length_append, hAl])) (by rw [f4]; exact Nat.le_refl _) f2 (.inr ⟨b1, o2, _, _, 64, cs, rfl, (if_neg (by simpa [Store.keys] using f0)).trans (if_pos rfl), hRB⟩) hBr (by omega) (fun b' cap' cs' σ' g1 g2 g3 g4 g5 => ?_)) | fail))
      all_goals
        have hsum : p + (mk.length + B.length) = p + M.length + B.length := by omega
        rw [List.append_assoc] at g1
        refine ⟨(i, b', cap', cs'), ⟨by simp only; omega, ?_, g2, ?_, g4⟩, Nat.lt_succ_self i, ?_⟩
        · simp only [hmap, hlen, hsum]; exact g1
        · simp only [hlen, hsum]; exact g3
        · simp only [hlen, hsum]
          refine Weak.sub ?_
          rcases g5 with ⟨rfl, rfl⟩ | ⟨_, rfl⟩
          · simp only [Store.set, if_true]
            exact SubN.cons (SubN.nil _) _
          · exact SubN.cons (SubN.nil _) _
end
end Go.Av
end

section
namespace Go.Av
open Go Go.RowKit Go.Proofs
set_option linter.unusedSimpArgs false
set_option linter.unusedVariables false

theorem putL_all (w : List Wd) (fresh : List (List UInt8)) (a b : Int) (gone : Nat) (ps : List Nat) (h : Gaps w.length gone 0 ps) : putL w fresh a b gone ps 0 = editD w fresh a b gone 0 ps 0 := by
  rw [putL_edit w fresh a b gone ps 0 0 h]; simp
theorem editE_two (w : List Wd) (x : Itm) (a b : Int) (hk : x.kind = 2) (ho : x.old ≠ []) : editE w x a b = if chosen (occs w x.old) x.nth = [] then ([], 4) else if 256 < (putL w x.new a b x.old.length (chosen (occs w x.old) x.nth) 0).length then ([], 6) else (putL w x.new a b x.old.length (chosen (occs w x.old) x.nth) 0, 0) := by
  unfold editE
  rw [if_neg (by rintro ⟨h, _⟩; omega), if_neg (show ¬ x.kind = 3 by omega), putL_all _ _ _ _ _ _ (chosen_gaps (occs_gaps ho))]
theorem editE_three (w : List Wd) (x : Itm) (a b : Int) (hk : x.kind = 3) (ho : x.old ≠ []) : editE w x a b = if chosen (occs w x.old) x.nth = [] then ([], 4) else if 256 < (putL w x.new a b 0 ((chosen (occs w x.old) x.nth).map (· + x.old.length)) 0).length then ([], 6) else (putL w x.new a b 0 ((chosen (occs w x.old) x.nth).map (· + x.old.length)) 0, 0) := by
  unfold editE
  rw [if_neg (by rintro ⟨_, h⟩; exact ho h), if_pos hk, putL_all _ _ _ _ _ _ (gaps_shift (chosen_gaps (occs_gaps ho)))]
theorem editE_four (w : List Wd) (x : Itm) (a b : Int) (hk : x.kind = 3) (ho : x.old = []) : editE w x a b = if 256 < (putL w x.new a b 0 [0] 0).length then ([], 6) else (putL w x.new a b 0 [0] 0, 0) := by
  unfold editE
  have e : putL w x.new a b 0 [0] 0 = markW a b x.new 0 ++ w := by rw [putL, putL]; simp
  rw [if_pos ⟨hk, ho⟩, e]

section
variable (G : Glob)
theorem f98 (w : List Wd) (x : Itm) (a b : Int) (hw : w.length ≤ 256) (hk : x.kind = 2) (ho : x.old ≠ []) (hol : x.old.length ≤ 256) (hnl : x.new.length ≤ 256) (hn : 0 ≤ x.nth ∧ x.nth ≤ 256) :
    Pure G Tryz.prog 98 [.lst 4 (w.map Wd.cs), .lst 1 (x.old.map srow), .lst 1 (x.new.map srow), .int .i64 x.nth, .int .i64 a, .int .i64 b] (editAV (editE w x a b)) := by
  have hP := f173 G w x.old x.nth (by omega) (by omega) ho hn.1 (by omega)
  have hg := chosen_gaps (nth := x.nth) (occs_gaps (w := w) ho)
  have hol0 : 1 ≤ x.old.length := List.length_pos_iff.2 ho
  have hcl := gaps_count hol0 (Nat.zero_le _) hg
  rw [editE_two w x a b hk ho]
  obtain ⟨ps, hps⟩ : ∃ ps, chosen (occs w x.old) x.nth = ps := ⟨_, rfl⟩
  rw [hps] at hP hg hcl ⊢
  have hU := f174 G w ps x.old.length x.new a b (by omega) (by omega) (by omega) (by omega) hg
  have e1 : decide ((x.old.length : Int) = 0) = false := decide_eq_false (by omega)
  have e2 : decide (x.nth < 0) = false := decide_eq_false (by omega)
  refine Pure.w c98 fun R hR => ?_
  unfold s98 r98
  unfold editAV at hR
  rcases Classical.em (ps = []) with h0 | h0
  · subst h0
    rw [if_pos rfl] at hR
    simp only [List.map_nil] at hP
    (repeat' (first | (with_reducible refine CALL_pure (hP) ?_) | simp -dsimp -implicitDefEqProofs only [EVz, seval, ↓reduceIte, reduceCtorEq, EV6, EV7, e1, e2] | fail))
    all_goals exact hR _ _ (Or.inr ⟨.inr rfl, .inl rfl, trivial⟩)
  · rw [if_neg h0] at hR
    have h1 : 1 ≤ ps.length := List.length_pos_iff.2 h0
    have e3 : decide ((ps.length : Int) = 0) = false := decide_eq_false (by omega)
    have hpr : (ps.map fun n : Nat => [AV.int .i64 (n : Int)]) = ps.map prow := rfl
    rw [hpr] at hP
    unfold putAV at hU
    generalize putL w x.new a b x.old.length ps 0 = q at *
    rcases Classical.em (256 < q.length) with h2 | h2
    · rw [if_pos h2] at hR hU
      (repeat' (first | (with_reducible refine CALL_pure (hP) ?_) | (with_reducible refine CALL_pure (hU) ?_) | simp -dsimp -implicitDefEqProofs only [EVz, seval, ↓reduceIte, reduceCtorEq, EV6, EV7, e1, e2, e3] | fail))
      all_goals exact hR _ _ (Or.inr ⟨.inr rfl, .inl rfl, trivial⟩)
    · rw [if_neg h2] at hR hU
      (repeat' (first | (with_reducible refine CALL_pure (hP) ?_) | (with_reducible refine CALL_pure (hU) ?_) | simp -dsimp -implicitDefEqProofs only [EVz, seval, ↓reduceIte, reduceCtorEq, EV6, EV7, e1, e2, e3] | fail))
      all_goals exact hR _ _ (Or.inl (Or.inl rfl))

set_option maxHeartbeats 2000000 in
theorem f100 (w : List Wd) (x : Itm) (a b : Int) (hw : w.length ≤ 256) (hk : x.kind = 3) (hol : x.old.length ≤ 256) (hnl : x.new.length ≤ 256) (hn1 : 1 ≤ x.new.length) (hn : 0 ≤ x.nth ∧ x.nth ≤ 256) (h0n : x.old = [] → x.nth = 0) :
    Pure G Tryz.prog 100 [.lst 4 (w.map Wd.cs), .lst 1 (x.old.map srow), .lst 1 (x.new.map srow), .int .i64 x.nth, .int .i64 a, .int .i64 b] (editAV (editE w x a b)) := by
  have e2 : decide (x.nth < 0) = false := decide_eq_false (by omega)
  have e4 : decide ((x.new.length : Int) = 0) = false := decide_eq_false (by omega)
  refine Pure.w c100 fun R hR => ?_
  unfold s100 r100
  unfold editAV at hR
  rcases Classical.em (x.old = []) with ho | ho
  · have hU := f174 G w [0] 0 x.new a b (by omega) (by simp) (by omega) (by omega) ⟨Nat.le_refl _, by omega, trivial⟩
    have e5 : decide (x.nth = 0) = true := decide_eq_true (h0n ho)
    have e6 : decide (x.nth ≠ 0) = false := decide_eq_false (by rw [h0n ho]; simp)
    have e7 : decide ((x.old.length : Int) = 0) = true := decide_eq_true (by rw [ho]; rfl)
    rw [editE_four w x a b hk ho] at hR
    unfold putAV at hU
    generalize putL w x.new a b 0 [0] 0 = q at *
    rcases Classical.em (256 < q.length) with h2 | h2
    · rw [if_pos h2] at hR hU
      (repeat' (first | simp -dsimp -implicitDefEqProofs only [EVz, seval, ↓reduceIte, reduceCtorEq, EV6, EV7, e2, e4, e5, e6, e7, hne] | simp -dsimp -implicitDefEqProofs only [EVz, seval, ↓reduceIte, reduceCtorEq, EV6, EV7, e2, e4, e5, e6, e7] | (with_reducible intro blk hblk; (try (have hnx := hblk; simp only [EVK] at hnx; (have hne := hnx)))) | (refine ⟨[prow 0], rfl, (by simp [prow]), rfl, ?_⟩) | (refine CALL_pure_le hU ⟨.inl (.inl rfl), .inl (.inr ⟨rfl, rfl⟩), .inl (.inl rfl), .inl (.inl rfl), .inl (.inl rfl), .inl (.inl rfl), trivial⟩ ?_) | fail))
      all_goals exact hR _ _ (Or.inr ⟨.inr rfl, .inl rfl, trivial⟩)
    · rw [if_neg h2] at hR hU
      (repeat' (first | simp -dsimp -implicitDefEqProofs only [EVz, seval, ↓reduceIte, reduceCtorEq, EV6, EV7, e2, e4, e5, e6, e7, hne] | simp -dsimp -implicitDefEqProofs only [EVz, seval, ↓reduceIte, reduceCtorEq, EV6, EV7, e2, e4, e5, e6, e7] | (with_reducible intro blk hblk; (try (have hnx := hblk; simp only [EVK] at hnx; (have hne := hnx)))) | (refine ⟨[prow 0], rfl, (by simp [prow]), rfl, ?_⟩) | (refine CALL_pure_le hU ⟨.inl (.inl rfl), .inl (.inr ⟨rfl, rfl⟩), .inl (.inl rfl), .inl (.inl rfl), .inl (.inl rfl), .inl (.inl rfl), trivial⟩ ?_) | fail))
      all_goals exact hR _ _ (Or.inl (Or.inl rfl))
  · have hP := f173 G w x.old x.nth (by omega) (by omega) ho hn.1 (by omega)
    have hg := chosen_gaps (nth := x.nth) (occs_gaps (w := w) ho)
    have hol0 : 1 ≤ x.old.length := List.length_pos_iff.2 ho
    have hcl := gaps_count hol0 (Nat.zero_le _) hg
    rw [editE_three w x a b hk ho] at hR
    obtain ⟨ps, hps⟩ : ∃ ps, chosen (occs w x.old) x.nth = ps := ⟨_, rfl⟩
    rw [hps] at hP hg hcl hR
    have hpr : (ps.map fun n : Nat => [AV.int .i64 (n : Int)]) = ps.map prow := rfl
    rw [hpr] at hP
    have hsz : ∀ r ∈ ps.map prow, r.length = 1 := by intro r hr; obtain ⟨n, _, rfl⟩ := List.mem_map.1 hr; rfl
    have hC := f175 G (ps.map prow) hsz (by rw [List.length_map]; omega)
    have hU := f174 G w (ps.map (· + x.old.length)) 0 x.new a b (by omega) (by rw [List.length_map]; omega) (by omega) (by omega) (gaps_shift hg)
    have e7 : decide ((x.old.length : Int) = 0) = false := decide_eq_false (by omega)
    rcases Classical.em (ps = []) with h0 | h0
    · subst h0
      rw [if_pos rfl] at hR
      simp only [List.map_nil] at hP hC
      (repeat' (first | (with_reducible refine CALL_pure (hP) ?_) | simp -dsimp -implicitDefEqProofs only [EVz, seval, ↓reduceIte, reduceCtorEq, EV6, EV7, e2, e4, e7] | (refine CALL_spec [] _ hC.v (AVleA.rfl' _) (SubN.refl _) (fun r1 σ1 h1 => ?_)) | (obtain ⟨base, cap, rfl, hO⟩ := h1) | fail))
      all_goals exact hR _ _ (Or.inr ⟨.inr rfl, .inl rfl, trivial⟩)
    · rw [if_neg h0] at hR
      have h1 : 1 ≤ ps.length := List.length_pos_iff.2 h0
      have e3 : decide ((ps.length : Int) = 0) = false := decide_eq_false (by omega)
      have hml : (ps.map prow).length = ps.length := List.length_map ..
      (repeat' (first | (with_reducible refine CALL_pure (hP) ?_) | simp -dsimp -implicitDefEqProofs only [EVz, seval, ↓reduceIte, reduceCtorEq, EV6, EV7, e2, e4, e7, e3, hml] | (refine CALL_specN [] [] hC.v (AVleA.rfl' _) (SubN.refl _) (fun r1 σ1 h1 hnd => ?_)) | (obtain ⟨base, cap, rfl, ⟨hO, _⟩ | ⟨b1, pad, rfl, rfl, hle, hcm, hrl, hln⟩⟩ := h1) | fail))
      · exfalso
        exact h0 (by simpa using hO)
      · obtain ⟨C, hCd⟩ : ∃ C : Nat → List (List AV), C = fun i => ((ps.take i).map (· + x.old.length) ++ ps.drop i).map prow := ⟨_, rfl⟩
        have hC0 : C 0 = ps.map prow := by rw [hCd]; simp
        have hCn : C ps.length = (ps.map (· + x.old.length)).map prow := by rw [hCd]; simp
        have hCr : ∀ i, ∀ r ∈ C i, r.length = 1 := fun i r hr => by rw [hCd] at hr; obtain ⟨n, _, rfl⟩ := List.mem_map.1 hr; rfl
        have hCl : ∀ i, i ≤ ps.length → (C i).length = ps.length := fun i hi => by rw [hCd]; simp; omega
        rw [hml] at hle
        refine W_list ps (fun i r (c : Unit) => True) (fun i c => [(0, .lst 4 (w.map Wd.cs)), (1, .lst 1 (x.old.map srow)), (2, .lst 1 (x.new.map srow)), (4, .int .i64 a), (5, .int .i64 b), (14, .sc (.slice (some ⟨b1, 0, none⟩) ps.length cap)), (52, .int .i64 ps.length), (53, .int .i64 i)]) (fun i c => [(b1, .cells 3 ((C i).flatten ++ pad))]) () trivial (by rw [hC0]; exact Weak.rfl' _ _) (by omega) (fun i p r c _ hx hwp => ?_) (fun c _ hn2 => ?_)
        · have hi := hx.lt
          have hgi : ps[i]? = some p := by
            have := hx.get p
            rw [List.getElem?_eq_getElem hi]
            simpa [hi] using this
          have hpg := gaps_one hg hgi
          have hCi : (C i)[i]? = some (prow p) := by
            rw [hCd]
            simp only [List.getElem?_map]
            rw [List.getElem?_append_right (by simp; omega)]
            simp only [List.length_map, List.length_take, Nat.min_eq_left (Nat.le_of_lt hi), Nat.sub_self, List.getElem?_drop, Nat.add_zero, hgi]
            rfl
          have hdr : ((C i).flatten ++ pad).drop (0 + i * 1) = .int .i64 (p : Int) :: ((C i).flatten ++ pad).drop (i + 1) := by
            have h2 := row_get (sz := 1) (pad := pad) (hCr i) hCi
            have h3 : i < ((C i).flatten ++ pad).length := by rw [List.length_append, flat_len _ (hCr i), hCl i (by omega)]; omega
            rw [Nat.zero_add, Nat.mul_one, List.drop_eq_getElem_cons h3]
            rw [Nat.mul_one, List.drop_eq_getElem_cons h3] at h2
            simp only [List.take_succ_cons, List.take_zero, prow] at h2
            injection h2 with h2 _
            rw [h2]
          have hlf : ((C i).flatten ++ pad).length = (ps.map prow).flatten.length + pad.length := by rw [List.length_append, flat_len _ (hCr i), flat_len _ hsz, hCl i (by omega), hml]
          have hle1 : 0 + i * 1 + 1 ≤ ((C i).flatten ++ pad).length := by rw [hlf, flat_len _ hsz, hml]; omega
          have wp : IntKind.i64.wrap ((p : Int) + (x.old.length : Int)) = ((p + x.old.length : Nat) : Int) := by rw [wrap_i64 (by omega) (by omega)]; omega
          have hset : splice ((C i).flatten ++ pad) (0 + i * 1) [.int .i64 ((p + x.old.length : Nat) : Int)] = (C (i + 1)).flatten ++ pad := by
            have h4 : C (i + 1) = (C i).set i (prow (p + x.old.length)) := by
              have h5 : ps.drop i = p :: ps.drop (i + 1) := by
                rw [List.drop_eq_getElem_cons hi]
                congr 1
                rw [List.getElem?_eq_getElem hi] at hgi
                injection hgi
              rw [hCd]
              simp only
              rw [h5, hx.take]
              simp only [List.map_append, List.map_cons, List.map_nil]
              rw [List.set_append_right _ _ (by simp; omega)]
              have h6 : i - (List.map prow ((ps.take i).map (· + x.old.length))).length = 0 := by simp; omega
              rw [h6]
              simp
            rw [h4, Nat.zero_add]
            exact row_set (sz := 1) (pad := pad) (hCr i) (by rw [hCl i (by omega)]; exact hi) rfl
          (repeat' (first | (with_reducible refine And.intro (by omega) ?_) | simp -dsimp -implicitDefEqProofs only [EVz, seval, ↓reduceIte, reduceCtorEq, EV6, EV7, hx.yes, hx.le0, hx.lt', hx.get, hwp, hdr, wp, hset] | (with_reducible refine same_case ?_) | fail))
          exact LK_next hx () trivial (Weak.rfl' _ _)
        · (try simp -dsimp -implicitDefEqProofs only [EVz, seval, ↓reduceIte, reduceCtorEq, EV6, EV7, hn2])
          refine ⟨_, _, Weak.freeze (j := 14) (rows := C ps.length) (pad := pad) (σ := []) rfl (hCr _) (hCl _ (Nat.le_refl _)).symm (by rw [hCl _ (Nat.le_refl _)]; exact hle) hcm, ?_⟩
          rw [hCn]
          unfold putAV at hU
          generalize putL w x.new a b 0 (ps.map (· + x.old.length)) 0 = q at *
          rcases Classical.em (256 < q.length) with h2 | h2
          · rw [if_pos h2] at hR hU
            (repeat' (first | (with_reducible refine CALL_pure (hU) ?_) | simp -dsimp -implicitDefEqProofs only [EVz, seval, ↓reduceIte, reduceCtorEq, EV6, EV7, Env.set, Env.get] | fail))
            all_goals exact hR _ _ (Or.inr ⟨.inr rfl, .inl rfl, trivial⟩)
          · rw [if_neg h2] at hR hU
            (repeat' (first | (with_reducible refine CALL_pure (hU) ?_) | simp -dsimp -implicitDefEqProofs only [EVz, seval, ↓reduceIte, reduceCtorEq, EV6, EV7, Env.set, Env.get] | fail))
            all_goals exact hR _ _ (Or.inl (Or.inl rfl))
end
end Go.Av
end
