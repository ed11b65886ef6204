/-
  THE LEXER's LAWS, 3: a token that stands alone; joining tokens with blanks.
-/
import Derived.Test.YtmghejoigggooaaGreatDoorXTokA
import Derived.Lib.Join
import Derived.Test.YtmghejoigggooaaGreatDoorXTok8
namespace Go.Av
open Go Go.RowKit
set_option linter.unusedSimpArgs false
set_option linter.unusedVariables false

theorem runEnd_last (p : UInt8 → Bool) (s : List UInt8) : ∀ (n k : Nat), s.length - k ≤ n → k < runEnd p s k → p (s.getD (runEnd p s k - 1) 0) = true := by
  intro n
  induction n with
  | zero =>
    intro k hn h
    rw [runEnd_stop p s k (by omega)] at h
    omega
  | succ n ih =>
    intro k hn h
    rcases Nat.lt_or_ge k s.length with hk | hk
    · cases hp : p (s.getD k 0) with
      | false => rw [runEnd_no p s k hk hp] at h; omega
      | true =>
        have e := runEnd_yes p s k hk hp
        rw [e]
        have h1 := runEnd_ge p s (k + 1)
        rcases Nat.lt_or_ge (k + 1) (runEnd p s (k + 1)) with h2 | h2
        · exact ih (k + 1) (by omega) h2
        · have h3 : runEnd p s (k + 1) = k + 1 := by omega
          rw [h3]
          exact hp
    · rw [runEnd_stop p s k hk] at h; omega

theorem not_blank_of {c : UInt8} {p : UInt8 → Bool} (h : p c = true) (hp : isBlank c = true → p c = false) : isBlank c = false := by
  cases hb : isBlank c with
  | false => rfl
  | true => rw [hp hb] at h; cases h

theorem nextS_last {s : List UInt8} {i : Nat} (hi : i < s.length) {k a : Nat} {t : List UInt8} {e : Nat} (h : nextS s i = .good k a t e) : isBlank (s.getD (e - 1) 0) = false := by
  obtain ⟨h1, h2, h3⟩ := nextS_end hi h
  unfold nextS at h
  split at h
  · rename_i hc
    obtain ⟨rfl, _⟩ := toldS_end h
    exact not_blank_of (runEnd_last isInner s _ i (Nat.le_refl _) h1) (fun hb => (blank_cls hb).1)
  · split at h
    · rename_i hc
      unfold numS at h
      split at h
      · cases h
      · obtain ⟨rfl, _⟩ := toldS_end h
        rcases Nat.lt_or_ge (runEnd isDigit s i) (runEnd isCap s (runEnd isDigit s i)) with hlt | hge
        · exact not_blank_of (runEnd_last isCap s _ _ (Nat.le_refl _) hlt) (fun hb => (blank_cls hb).2.1)
        · have := runEnd_ge isCap s (runEnd isDigit s i)
          have e : runEnd isCap s (runEnd isDigit s i) = runEnd isDigit s i := by omega
          rw [e]
          exact not_blank_of (runEnd_last isDigit s _ i (Nat.le_refl _) (runEnd_gt isDigit s i hi hc)) (fun hb => (blank_cls hb).2.2.1)
    · split at h
      · rename_i hc
        split at h
        · cases h
        · rename_i p hp
          cases h
          have h4 := unq_take _ _ _ (Nat.le_refl _) hp
          have hl := unq_len _ _ _ (Nat.le_refl _) hp
          simp only [List.length_drop] at hl
          have h5 : s.getD (p.2 + i + 1 - 1) 0 = 34 := by
            have h6 : ((s.drop (i + 1)).take p.2).getD (p.2 - 1) 0 = 34 := by
              rw [h4]
              have hle := congrArg List.length h4
              simp only [List.length_take, List.length_drop, List.length_append, List.length_cons, List.length_nil] at hle
              have : p.2 - 1 = (escS p.1).length := by omega
              rw [this]
              simp
            have h7 : ((s.drop (i + 1)).take p.2).getD (p.2 - 1) 0 = s.getD (i + 1 + (p.2 - 1)) 0 := by
              simp only [List.getD_eq_getElem?_getD]
              rw [List.getElem?_take_of_lt (by omega), List.getElem?_drop]
            rw [h7] at h6
            have : i + 1 + (p.2 - 1) = p.2 + i + 1 - 1 := by omega
            rw [this] at h6
            exact h6
          rw [h5]
          rfl
      · split at h
        · rename_i hc
          cases h
          exact not_blank_of (p := isSign) hc (fun hb => (blank_cls hb).2.2.2.2)
        · cases h

/-- The program's test of a token, and the reference's. -/
def okB (k : Int) (x : List UInt8) : Bool := match singleS (pieceS k x) with
  | some t => decide ((t.kind : Int) = k) && decide (t.text = x)
  | none => false
def aloneB (k : Int) (x : List UInt8) : Bool := match scanAt (pieceS k x) 0 with
  | .good [t] => decide ((t.kind : Int) = k) && decide (t.text = x)
  | _ => false

theorem ok_alone (k : Int) (x : List UInt8) : okB k x = aloneB k x := by
  unfold okB aloneB singleS
  cases hq : scanAt (pieceS k x) 0 with
  | bad n => rfl
  | good l =>
    match l, hq with
    | [], _ => rfl
    | t1 :: t2 :: r, _ => rfl
    | [t], hq =>
      simp only
      by_cases hc : (t.kind : Int) = k ∧ t.text = x
      · obtain ⟨rfl, rfl⟩ := hc
        rw [if_pos]
        obtain ⟨h1, h2⟩ := scan_first hq
        obtain ⟨c1, c2, c3, c4, c5⟩ := scan_chain _ _ 0 _ (Nat.le_refl _) hq
        have hz : t.at_ = 0 := by omega
        have hb := h2.1 hz
        refine (trim_iff _ h1).2 ⟨hb, ?_⟩
        have hpos : 0 < (pieceS t.kind t.text).length := List.length_pos_iff.2 h1
        cases hn : nextS (pieceS t.kind t.text) 0 with
        | bad m => rw [scan_bad _ 0 m hpos hb hn] at hq; cases hq
        | good k' a t' e =>
          rw [scan_good _ 0 hpos hb hn] at hq
          cases hr : scanAt (pieceS t.kind t.text) e with
          | bad m => rw [hr] at hq; cases hq
          | good l' =>
            rw [hr] at hq
            simp only [Lx.pre] at hq
            have he := (nextS_piece hpos hn).2
            have hl := nextS_last hpos hn
            injection hq with hq
            injection hq with hq hq2
            have hk : t.kind = k' := by rw [← hq]
            have ht : t.text = t' := by rw [← hq]
            rw [← hk, ← ht, Nat.zero_add] at he
            rw [he] at hl
            exact hl
      · have hf : (decide ((t.kind : Int) = k) && decide (t.text = x)) = false := by
          rw [Bool.and_eq_false_iff]
          rcases Classical.not_and_iff_not_or_not.1 hc with h | h
          · exact Or.inl (decide_eq_false h)
          · exact Or.inr (decide_eq_false h)
        by_cases ht : Lib.trimS (pieceS k x) [32, 10] = pieceS k x
        · rw [if_pos ht]
        · rw [if_neg ht]
          exact hf.symm

theorem join_snoc (xs : List (List UInt8)) (p sep : List UInt8) (h : xs ≠ []) : Lib.join (xs ++ [p]) sep = Lib.join xs sep ++ (sep ++ p) := by
  cases xs with
  | nil => exact absurd rfl h
  | cons x r =>
    rw [List.cons_append, Lib.join_cons, Lib.join_cons]
    simp [Lib.joinTail]
end Go.Av

/-
  THE LEXER, 25: tokens of any kind; Join; a token written, a token alone.
-/
namespace Go.Av
open Go Go.RowKit Go.Proofs
set_option linter.unusedSimpArgs false
set_option linter.unusedVariables false

/-- A token of any kind and offset. -/
structure ZTok where
  kind : Int
  at_ : Int
  text : List UInt8
def ZTok.row (t : ZTok) : List AV := [.int .i64 t.kind, .int .i64 t.at_, .str t.text]
def rowsZ (l : List ZTok) : List (List AV) := l.map ZTok.row
instance : Inhabited ZTok := ⟨⟨0, 0, []⟩⟩
theorem rowsZ_get (l : List ZTok) (i : Nat) (h : i < l.length) : (rowsZ l).getD i [] = [.int .i64 (l.getD i default).kind, .int .i64 (l.getD i default).at_, .str (l.getD i default).text] := by
  simp [rowsZ, h, ZTok.row]
theorem rowsZ_len (l : List ZTok) : (rowsZ l).length = l.length := by simp [rowsZ]
def ZTok.piece (t : ZTok) : List UInt8 := pieceS t.kind t.text
theorem piece_len (k : Int) (t : List UInt8) : (pieceS k t).length ≤ 2 * t.length + 2 := by
  unfold pieceS
  split
  · rw [quoteS_len, escS_len]
    have := cntE_le t
    omega
  · omega

def strRows (xs : List (List UInt8)) : List (List AV) := xs.map fun x => [.str x]
theorem strRows_len (xs : List (List UInt8)) : (strRows xs).length = xs.length := by simp [strRows]

theorem rows_cells {τ : Store} {w : World} {b : Nat} : ∀ (xs : List (List UInt8)) (i : Nat), RepRows τ w ⟨b, 0, none⟩ 1 i (strRows xs) → ∀ (j : Nat) x, xs[j]? = some x → w.cell? ⟨b, i + j, none⟩ = some (.string ⟨⟨x⟩⟩)
  | [], i, _, j, x, hx => by simp at hx
  | y :: xs, i, h, j, x, hx => by
    simp only [strRows, List.map_cons, RepRows, RepAt, Rep] at h
    obtain ⟨_, ⟨⟨u, hF, _, rfl⟩, _⟩, hr⟩ := h
    cases j with
    | zero =>
      simp at hx
      subst hx
      have e : (⟨b, 0, none⟩ : Addr).add (i * 1) = ⟨b, i, none⟩ := by unfold Addr.add; by_cases hi : i = 0 <;> simp [hi]
      have := hF.1
      rw [e] at this
      exact this
    | succ j =>
      have := rows_cells xs (i + 1) hr j x (by simpa using hx)
      rw [show i + (j + 1) = i + 1 + j by omega]
      exact this

section
variable (G : Glob)

theorem f38 (g : Option Nat) (xs : List (List UInt8)) (sep : List UInt8) (hn : xs.length ≤ 1000000) (hl : (Lib.join xs sep).length ≤ 100000000) : Pure G Tryz.prog 38 [.own g 9 1 (strRows xs), .str sep] (.str (Lib.join xs sep)) := by
  refine Pure.of_calls Tryz.func38 (by kernel_rfl) (by kernel_rfl) fun τ w vs hS hA => ?_
  obtain ⟨u, v, rfl, h1, h2⟩ := vs_two hA
  simp only [Rep] at h2
  subst h2
  refine ⟨.string ⟨⟨Lib.join xs sep⟩⟩, fun _ _ => by simp only [Rep], ?_⟩
  have none_ : ∀ a c, xs = [] → Calls Tryz.prog 38 #[.slice a 0 c, .string ⟨⟨sep⟩⟩] w fun e w' => e = .returned (.string ⟨⟨Lib.join xs sep⟩⟩) ∧ Below w.heap.size w w' := by
    rintro a c rfl
    refine (Tryz.strings_Join_none a c ⟨⟨sep⟩⟩ w).mono ?_
    rintro e w' ⟨rfl, rfl⟩
    exact ⟨rfl, Below.refl _ _⟩
  cases g with
  | none =>
    simp only [Rep] at h1
    obtain ⟨rfl, hx⟩ := h1
    exact none_ _ _ (by simpa [strRows] using hx)
  | some b =>
    simp only [Rep] at h1
    obtain ⟨cap, rfl, hc, hm, hsh, hr⟩ := h1
    rw [strRows_len] at hc ⊢
    by_cases hx : xs = []
    · subst hx
      exact none_ _ _ rfl
    · have e1 : (xs.map (fun x => (⟨⟨x⟩⟩ : ByteArray))).map (·.data.toList) = xs := by rw [List.map_map]; exact List.map_id xs
      have hb : b < w.heap.size := by
        rcases Nat.lt_or_ge b w.heap.size with h | h
        · exact h
        · have : w.heap[b]? = none := Array.getElem?_eq_none h
          simp [World.shape?, this] at hsh
      have hcells : ∀ (j : Nat) x, (xs.map (fun x => (⟨⟨x⟩⟩ : ByteArray)))[j]? = some x → w.cell? ⟨b, 0 + j, none⟩ = some (.string x) := by
        intro j x hj
        simp only [List.getElem?_map, Option.map_eq_some_iff] at hj
        obtain ⟨y, hy, rfl⟩ := hj
        exact rows_cells xs 0 hr j y hy
      have h := Tryz.strings_Join b 0 cap (xs.map (fun x => (⟨⟨x⟩⟩ : ByteArray))) ⟨⟨sep⟩⟩ w hcells hb (by simp; omega) (by simpa using hc) (by rw [e1]; show (Lib.join xs sep).length ≤ _; omega)
      rw [e1, List.length_map] at h
      exact h
end
end Go.Av

/-
  THE LEXER, 26: lists of tokens that are too long; a token written; a token alone.
-/
namespace Go.Av
open Go Go.RowKit Go.Proofs
set_option linter.unusedSimpArgs false
set_option linter.unusedVariables false

def sumT (l : List ZTok) : Nat := (l.map fun t => t.text.length).sum
theorem sumT_app (l m : List ZTok) : sumT (l ++ m) = sumT l + sumT m := by simp [sumT]
theorem sumT_take (l : List ZTok) (i : Nat) : sumT (l.take i) ≤ sumT l := by
  conv => rhs; rw [← List.take_append_drop i l, sumT_app]
  omega
theorem take_snocZ (l : List ZTok) (i : Nat) (h : i < l.length) : l.take (i + 1) = l.take i ++ [l.getD i default] := by
  rw [List.take_succ_eq_append_getElem h]; simp [h]
theorem getZ_mem (l : List ZTok) (i : Nat) (h : i < l.length) : l.getD i default ∈ l := by simp [h]

def longB (l : List ZTok) : Bool := decide (3000 < sumT l) || decide (200 < l.length)

section
variable (G : Glob)

theorem f22 (l : List ZTok) (hl : l.length < 1000000000000000000) (ht : ∀ t ∈ l, t.text.length < 1000000000000000000) : Pure G Tryz.prog 22 [.lst 3 (rowsZ l)] (.bool (longB l)) := by
  refine Pure.w c22 fun R hR => ?_
  have hbig : 3000 < sumT l → ∀ σ, RET (.bool true) σ R := fun h σ => RET.eq hR (by unfold longB; rw [decide_eq_true h]; rfl)
  have hend : ¬ 3000 < sumT l → ∀ σ, RET (.bool (decide ((200 : Int) < l.length))) σ R := fun h σ => RET.eq hR (by unfold longB; rw [decide_eq_false h, Bool.false_or]; exact congrArg AV.bool (decide_eq_decide.2 (by omega)))
  clear hR
  unfold s22 r22
  (try simp -dsimp -implicitDefEqProofs only [EV1, EV2, EV3, EV4, Nat.reduceEqDiff, ↓reduceIte, List.contains_cons, List.contains_nil, Nat.reduceBEq, Bool.or_false, Bool.false_or, Bool.or_true, Bool.true_or, Bool.not_true, Bool.not_false, reduceCtorEq, List.map_cons, List.map_nil, BEq.rfl, retQ_ret, retQ_normal, RX_nil, RX_tmp, RX_cell, one_nil, one_one, one_two, argEnv_nil, argEnv_cons, Nat.reduceAdd, List.length_cons, List.length_nil, List.cons_append, List.nil_append, List.drop_succ_cons, List.drop_zero, List.drop_nil, List.take_succ_cons, List.take_zero, List.headD_cons, Nat.reduceLeDiff, true_and, and_true, eq_self, Nat.le_refl, Nat.reduceLT, List.getD_cons_zero, List.getD_cons_succ, Int.reduceToNat, UInt8.reduceToNat, Nat.reduceMul, Nat.reduceAdd, Nat.reduceSub, Int.reduceLT, Int.reduceLE, Int.reduceAdd, Int.reduceSub, Int.reduceMul, Int.reduceEq, Int.reduceNe, Int.reduceNeg, Int.reduceTDiv, Int.reduceTMod, decide_true, decide_false, Nat.zero_add, Nat.mul_one, Int.cast_ofNat_Int, Int.toNat_zero, Bool.true_eq_false, Bool.false_eq_true, not_true_eq_false, not_false_eq_true, wrap_i64, ne_eq, Option.map_some, Bool.true_and, Bool.and_true, Bool.false_and, Bool.and_false, rowsZ_len])
  refine W_loop (ι := Nat) (fun i => i ≤ l.length ∧ sumT (l.take i) ≤ 3000) (fun i => l.length - i) (fun i => [(0, .lst 3 (rowsZ l)), (3, .int .i64 (sumT (l.take i) : Nat)), (6, .lst 3 (rowsZ l)), (7, .int .i64 l.length), (8, .int .i64 i)]) (fun _ => []) 0 ⟨by omega, by simp [sumT]⟩ (Weak.rfl' _ _) ?_
  rintro i ⟨hi, hs⟩
  (try simp -dsimp -implicitDefEqProofs only [EV1, EV2, EV3, EV4, Nat.reduceEqDiff, ↓reduceIte, List.contains_cons, List.contains_nil, Nat.reduceBEq, Bool.or_false, Bool.false_or, Bool.or_true, Bool.true_or, Bool.not_true, Bool.not_false, reduceCtorEq, List.map_cons, List.map_nil, BEq.rfl, retQ_ret, retQ_normal, RX_nil, RX_tmp, RX_cell, one_nil, one_one, one_two, argEnv_nil, argEnv_cons, Nat.reduceAdd, List.length_cons, List.length_nil, List.cons_append, List.nil_append, List.drop_succ_cons, List.drop_zero, List.drop_nil, List.take_succ_cons, List.take_zero, List.headD_cons, Nat.reduceLeDiff, true_and, and_true, eq_self, Nat.le_refl, Nat.reduceLT, List.getD_cons_zero, List.getD_cons_succ, Int.reduceToNat, UInt8.reduceToNat, Nat.reduceMul, Nat.reduceAdd, Nat.reduceSub, Int.reduceLT, Int.reduceLE, Int.reduceAdd, Int.reduceSub, Int.reduceMul, Int.reduceEq, Int.reduceNe, Int.reduceNeg, Int.reduceTDiv, Int.reduceTMod, decide_true, decide_false, Nat.zero_add, Nat.mul_one, Int.cast_ofNat_Int, Int.toNat_zero, Bool.true_eq_false, Bool.false_eq_true, not_true_eq_false, not_false_eq_true, wrap_i64, ne_eq, Option.map_some, Bool.true_and, Bool.and_true, Bool.false_and, Bool.and_false])
  refine split_case (fun h2 => ?_) (fun h2 => ?_)
  · have h2 := of_decide_eq_true h2
    have hi1 : i < l.length := by omega
    have hw : IntKind.i64.wrap ((i : Int) + 1) = (i : Int) + 1 := wrap_i64 (by omega) (by omega)
    have g1 := rowsZ_get l i hi1
    have t1 := take_snocZ l i hi1
    have t2 := ht _ (getZ_mem l i hi1)
    have t3 := sumT_take l (i + 1)
    obtain ⟨x, hx⟩ : ∃ x, l.getD i default = x := ⟨_, rfl⟩
    rw [hx] at g1 t1 t2
    have t4 : sumT (l.take (i + 1)) = sumT (l.take i) + x.text.length := by rw [t1, sumT_app]; simp [sumT]
    have hw2 : IntKind.i64.wrap ((sumT (l.take i) : Int) + x.text.length) = (sumT (l.take i) : Int) + x.text.length := wrap_i64 (by omega) (by omega)
    (try simp -dsimp -implicitDefEqProofs only [EV1, EV2, EV3, EV4, Nat.reduceEqDiff, ↓reduceIte, List.contains_cons, List.contains_nil, Nat.reduceBEq, Bool.or_false, Bool.false_or, Bool.or_true, Bool.true_or, Bool.not_true, Bool.not_false, reduceCtorEq, List.map_cons, List.map_nil, BEq.rfl, retQ_ret, retQ_normal, RX_nil, RX_tmp, RX_cell, one_nil, one_one, one_two, argEnv_nil, argEnv_cons, Nat.reduceAdd, List.length_cons, List.length_nil, List.cons_append, List.nil_append, List.drop_succ_cons, List.drop_zero, List.drop_nil, List.take_succ_cons, List.take_zero, List.headD_cons, Nat.reduceLeDiff, true_and, and_true, eq_self, Nat.le_refl, Nat.reduceLT, List.getD_cons_zero, List.getD_cons_succ, Int.reduceToNat, UInt8.reduceToNat, Nat.reduceMul, Nat.reduceAdd, Nat.reduceSub, Int.reduceLT, Int.reduceLE, Int.reduceAdd, Int.reduceSub, Int.reduceMul, Int.reduceEq, Int.reduceNe, Int.reduceNeg, Int.reduceTDiv, Int.reduceTMod, decide_true, decide_false, Nat.zero_add, Nat.mul_one, Int.cast_ofNat_Int, Int.toNat_zero, Bool.true_eq_false, Bool.false_eq_true, not_true_eq_false, not_false_eq_true, wrap_i64, ne_eq, Option.map_some, Bool.true_and, Bool.and_true, Bool.false_and, Bool.and_false, rowsZ_len, Int.toNat_natCast, g1])
    refine ⟨by omega, by omega, fun b hb => ?_⟩
    (try simp -dsimp -implicitDefEqProofs only [EV1, EV2, EV3, EV4, Nat.reduceEqDiff, ↓reduceIte, List.contains_cons, List.contains_nil, Nat.reduceBEq, Bool.or_false, Bool.false_or, Bool.or_true, Bool.true_or, Bool.not_true, Bool.not_false, reduceCtorEq, List.map_cons, List.map_nil, BEq.rfl, retQ_ret, retQ_normal, RX_nil, RX_tmp, RX_cell, one_nil, one_one, one_two, argEnv_nil, argEnv_cons, Nat.reduceAdd, List.length_cons, List.length_nil, List.cons_append, List.nil_append, List.drop_succ_cons, List.drop_zero, List.drop_nil, List.take_succ_cons, List.take_zero, List.headD_cons, Nat.reduceLeDiff, true_and, and_true, eq_self, Nat.le_refl, Nat.reduceLT, List.getD_cons_zero, List.getD_cons_succ, Int.reduceToNat, UInt8.reduceToNat, Nat.reduceMul, Nat.reduceAdd, Nat.reduceSub, Int.reduceLT, Int.reduceLE, Int.reduceAdd, Int.reduceSub, Int.reduceMul, Int.reduceEq, Int.reduceNe, Int.reduceNeg, Int.reduceTDiv, Int.reduceTMod, decide_true, decide_false, Nat.zero_add, Nat.mul_one, Int.cast_ofNat_Int, Int.toNat_zero, Bool.true_eq_false, Bool.false_eq_true, not_true_eq_false, not_false_eq_true, wrap_i64, ne_eq, Option.map_some, Bool.true_and, Bool.and_true, Bool.false_and, Bool.and_false, hw2])
    refine split_case (fun h3 => ?_) (fun h3 => ?_)
    · have h3 := of_decide_eq_true h3
      (try simp -dsimp -implicitDefEqProofs only [EV1, EV2, EV3, EV4, Nat.reduceEqDiff, ↓reduceIte, List.contains_cons, List.contains_nil, Nat.reduceBEq, Bool.or_false, Bool.false_or, Bool.or_true, Bool.true_or, Bool.not_true, Bool.not_false, reduceCtorEq, List.map_cons, List.map_nil, BEq.rfl, retQ_ret, retQ_normal, RX_nil, RX_tmp, RX_cell, one_nil, one_one, one_two, argEnv_nil, argEnv_cons, Nat.reduceAdd, List.length_cons, List.length_nil, List.cons_append, List.nil_append, List.drop_succ_cons, List.drop_zero, List.drop_nil, List.take_succ_cons, List.take_zero, List.headD_cons, Nat.reduceLeDiff, true_and, and_true, eq_self, Nat.le_refl, Nat.reduceLT, List.getD_cons_zero, List.getD_cons_succ, Int.reduceToNat, UInt8.reduceToNat, Nat.reduceMul, Nat.reduceAdd, Nat.reduceSub, Int.reduceLT, Int.reduceLE, Int.reduceAdd, Int.reduceSub, Int.reduceMul, Int.reduceEq, Int.reduceNe, Int.reduceNeg, Int.reduceTDiv, Int.reduceTMod, decide_true, decide_false, Nat.zero_add, Nat.mul_one, Int.cast_ofNat_Int, Int.toNat_zero, Bool.true_eq_false, Bool.false_eq_true, not_true_eq_false, not_false_eq_true, wrap_i64, ne_eq, Option.map_some, Bool.true_and, Bool.and_true, Bool.false_and, Bool.and_false])
      exact hbig (by omega) _
    · have h3 := of_decide_eq_false h3
      (try simp -dsimp -implicitDefEqProofs only [EV1, EV2, EV3, EV4, Nat.reduceEqDiff, ↓reduceIte, List.contains_cons, List.contains_nil, Nat.reduceBEq, Bool.or_false, Bool.false_or, Bool.or_true, Bool.true_or, Bool.not_true, Bool.not_false, reduceCtorEq, List.map_cons, List.map_nil, BEq.rfl, retQ_ret, retQ_normal, RX_nil, RX_tmp, RX_cell, one_nil, one_one, one_two, argEnv_nil, argEnv_cons, Nat.reduceAdd, List.length_cons, List.length_nil, List.cons_append, List.nil_append, List.drop_succ_cons, List.drop_zero, List.drop_nil, List.take_succ_cons, List.take_zero, List.headD_cons, Nat.reduceLeDiff, true_and, and_true, eq_self, Nat.le_refl, Nat.reduceLT, List.getD_cons_zero, List.getD_cons_succ, Int.reduceToNat, UInt8.reduceToNat, Nat.reduceMul, Nat.reduceAdd, Nat.reduceSub, Int.reduceLT, Int.reduceLE, Int.reduceAdd, Int.reduceSub, Int.reduceMul, Int.reduceEq, Int.reduceNe, Int.reduceNeg, Int.reduceTDiv, Int.reduceTMod, decide_true, decide_false, Nat.zero_add, Nat.mul_one, Int.cast_ofNat_Int, Int.toNat_zero, Bool.true_eq_false, Bool.false_eq_true, not_true_eq_false, not_false_eq_true, wrap_i64, ne_eq, Option.map_some, Bool.true_and, Bool.and_true, Bool.false_and, Bool.and_false, hw, hw2])
      refine ⟨i + 1, ⟨by omega, by omega⟩, by omega, ?_⟩
      rw [t4]
      exact Weak.of ⟨AVle.rfl' _, AVle.rfl' _, AVle.rfl' _, AVle.rfl' _, AVle.rfl' _, trivial⟩ (SubN.nil _)
  · have h2 := of_decide_eq_false h2
    obtain rfl : i = l.length := by omega
    rw [List.take_length] at hs
    (try simp -dsimp -implicitDefEqProofs only [EV1, EV2, EV3, EV4, Nat.reduceEqDiff, ↓reduceIte, List.contains_cons, List.contains_nil, Nat.reduceBEq, Bool.or_false, Bool.false_or, Bool.or_true, Bool.true_or, Bool.not_true, Bool.not_false, reduceCtorEq, List.map_cons, List.map_nil, BEq.rfl, retQ_ret, retQ_normal, RX_nil, RX_tmp, RX_cell, one_nil, one_one, one_two, argEnv_nil, argEnv_cons, Nat.reduceAdd, List.length_cons, List.length_nil, List.cons_append, List.nil_append, List.drop_succ_cons, List.drop_zero, List.drop_nil, List.take_succ_cons, List.take_zero, List.headD_cons, Nat.reduceLeDiff, true_and, and_true, eq_self, Nat.le_refl, Nat.reduceLT, List.getD_cons_zero, List.getD_cons_succ, Int.reduceToNat, UInt8.reduceToNat, Nat.reduceMul, Nat.reduceAdd, Nat.reduceSub, Int.reduceLT, Int.reduceLE, Int.reduceAdd, Int.reduceSub, Int.reduceMul, Int.reduceEq, Int.reduceNe, Int.reduceNeg, Int.reduceTDiv, Int.reduceTMod, decide_true, decide_false, Nat.zero_add, Nat.mul_one, Int.cast_ofNat_Int, Int.toNat_zero, Bool.true_eq_false, Bool.false_eq_true, not_true_eq_false, not_false_eq_true, wrap_i64, ne_eq, Option.map_some, Bool.true_and, Bool.and_true, Bool.false_and, Bool.and_false, rowsZ_len])
    exact hend (by omega) _

theorem f37 (k a : Int) (x : List UInt8) (hx : x.length < 400000) : Pure G Tryz.prog 37 [.agg [.int .i64 k, .int .i64 a, .str x]] (.tup [.str (pieceS k x), .bool (okB k x)]) := by
  refine Pure.w c37 fun R hR => ?_
  have hp := piece_len k x
  have hv : ∀ b, okB k x = b → ∀ σ, RET (.tup [.str (pieceS k x), .bool b]) σ R := fun b h σ => RET.eq hR (by rw [h])
  clear hR
  unfold okB at hv
  have h34 := f34 G (pieceS k x) (by omega)
  unfold s37 r37
  (try simp -dsimp -implicitDefEqProofs only [EV1, EV2, EV3, EV4, Nat.reduceEqDiff, ↓reduceIte, List.contains_cons, List.contains_nil, Nat.reduceBEq, Bool.or_false, Bool.false_or, Bool.or_true, Bool.true_or, Bool.not_true, Bool.not_false, reduceCtorEq, List.map_cons, List.map_nil, BEq.rfl, retQ_ret, retQ_normal, RX_nil, RX_tmp, RX_cell, one_nil, one_one, one_two, argEnv_nil, argEnv_cons, Nat.reduceAdd, List.length_cons, List.length_nil, List.cons_append, List.nil_append, List.drop_succ_cons, List.drop_zero, List.drop_nil, List.take_succ_cons, List.take_zero, List.headD_cons, Nat.reduceLeDiff, true_and, and_true, eq_self, Nat.le_refl, Nat.reduceLT, List.getD_cons_zero, List.getD_cons_succ, Int.reduceToNat, UInt8.reduceToNat, Nat.reduceMul, Nat.reduceAdd, Nat.reduceSub, Int.reduceLT, Int.reduceLE, Int.reduceAdd, Int.reduceSub, Int.reduceMul, Int.reduceEq, Int.reduceNe, Int.reduceNeg, Int.reduceTDiv, Int.reduceTMod, decide_true, decide_false, Nat.zero_add, Nat.mul_one, Int.cast_ofNat_Int, Int.toNat_zero, Bool.true_eq_false, Bool.false_eq_true, not_true_eq_false, not_false_eq_true, wrap_i64, ne_eq, Option.map_some, Bool.true_and, Bool.and_true, Bool.false_and, Bool.and_false])
  intro b hb
  (try simp -dsimp -implicitDefEqProofs only [EV1, EV2, EV3, EV4, Nat.reduceEqDiff, ↓reduceIte, List.contains_cons, List.contains_nil, Nat.reduceBEq, Bool.or_false, Bool.false_or, Bool.or_true, Bool.true_or, Bool.not_true, Bool.not_false, reduceCtorEq, List.map_cons, List.map_nil, BEq.rfl, retQ_ret, retQ_normal, RX_nil, RX_tmp, RX_cell, one_nil, one_one, one_two, argEnv_nil, argEnv_cons, Nat.reduceAdd, List.length_cons, List.length_nil, List.cons_append, List.nil_append, List.drop_succ_cons, List.drop_zero, List.drop_nil, List.take_succ_cons, List.take_zero, List.headD_cons, Nat.reduceLeDiff, true_and, and_true, eq_self, Nat.le_refl, Nat.reduceLT, List.getD_cons_zero, List.getD_cons_succ, Int.reduceToNat, UInt8.reduceToNat, Nat.reduceMul, Nat.reduceAdd, Nat.reduceSub, Int.reduceLT, Int.reduceLE, Int.reduceAdd, Int.reduceSub, Int.reduceMul, Int.reduceEq, Int.reduceNe, Int.reduceNeg, Int.reduceTDiv, Int.reduceTMod, decide_true, decide_false, Nat.zero_add, Nat.mul_one, Int.cast_ofNat_Int, Int.toNat_zero, Bool.true_eq_false, Bool.false_eq_true, not_true_eq_false, not_false_eq_true, wrap_i64, ne_eq, Option.map_some, Bool.true_and, Bool.and_true, Bool.false_and, Bool.and_false])
  refine split_case (fun h => ?_) (fun h => ?_)
  · have h := of_decide_eq_true h
    (try simp -dsimp -implicitDefEqProofs only [EV1, EV2, EV3, EV4, Nat.reduceEqDiff, ↓reduceIte, List.contains_cons, List.contains_nil, Nat.reduceBEq, Bool.or_false, Bool.false_or, Bool.or_true, Bool.true_or, Bool.not_true, Bool.not_false, reduceCtorEq, List.map_cons, List.map_nil, BEq.rfl, retQ_ret, retQ_normal, RX_nil, RX_tmp, RX_cell, one_nil, one_one, one_two, argEnv_nil, argEnv_cons, Nat.reduceAdd, List.length_cons, List.length_nil, List.cons_append, List.nil_append, List.drop_succ_cons, List.drop_zero, List.drop_nil, List.take_succ_cons, List.take_zero, List.headD_cons, Nat.reduceLeDiff, true_and, and_true, eq_self, Nat.le_refl, Nat.reduceLT, List.getD_cons_zero, List.getD_cons_succ, Int.reduceToNat, UInt8.reduceToNat, Nat.reduceMul, Nat.reduceAdd, Nat.reduceSub, Int.reduceLT, Int.reduceLE, Int.reduceAdd, Int.reduceSub, Int.reduceMul, Int.reduceEq, Int.reduceNe, Int.reduceNeg, Int.reduceTDiv, Int.reduceTMod, decide_true, decide_false, Nat.zero_add, Nat.mul_one, Int.cast_ofNat_Int, Int.toNat_zero, Bool.true_eq_false, Bool.false_eq_true, not_true_eq_false, not_false_eq_true, wrap_i64, ne_eq, Option.map_some, Bool.true_and, Bool.and_true, Bool.false_and, Bool.and_false])
    refine CALL_pure (f18 G x (by omega)) ?_
    have e : quoteS x = pieceS k x := by rw [pieceS, if_pos h]
    (try simp -dsimp -implicitDefEqProofs only [EV1, EV2, EV3, EV4, Nat.reduceEqDiff, ↓reduceIte, List.contains_cons, List.contains_nil, Nat.reduceBEq, Bool.or_false, Bool.false_or, Bool.or_true, Bool.true_or, Bool.not_true, Bool.not_false, reduceCtorEq, List.map_cons, List.map_nil, BEq.rfl, retQ_ret, retQ_normal, RX_nil, RX_tmp, RX_cell, one_nil, one_one, one_two, argEnv_nil, argEnv_cons, Nat.reduceAdd, List.length_cons, List.length_nil, List.cons_append, List.nil_append, List.drop_succ_cons, List.drop_zero, List.drop_nil, List.take_succ_cons, List.take_zero, List.headD_cons, Nat.reduceLeDiff, true_and, and_true, eq_self, Nat.le_refl, Nat.reduceLT, List.getD_cons_zero, List.getD_cons_succ, Int.reduceToNat, UInt8.reduceToNat, Nat.reduceMul, Nat.reduceAdd, Nat.reduceSub, Int.reduceLT, Int.reduceLE, Int.reduceAdd, Int.reduceSub, Int.reduceMul, Int.reduceEq, Int.reduceNe, Int.reduceNeg, Int.reduceTDiv, Int.reduceTMod, decide_true, decide_false, Nat.zero_add, Nat.mul_one, Int.cast_ofNat_Int, Int.toNat_zero, Bool.true_eq_false, Bool.false_eq_true, not_true_eq_false, not_false_eq_true, wrap_i64, ne_eq, Option.map_some, Bool.true_and, Bool.and_true, Bool.false_and, Bool.and_false, e])
    cases hq : singleS (pieceS k x) with
    | none =>
      rw [hq] at hv h34
      simp only [singleAV] at h34
      refine CALL_pure h34 ?_
      (try simp -dsimp -implicitDefEqProofs only [EV1, EV2, EV3, EV4, Nat.reduceEqDiff, ↓reduceIte, List.contains_cons, List.contains_nil, Nat.reduceBEq, Bool.or_false, Bool.false_or, Bool.or_true, Bool.true_or, Bool.not_true, Bool.not_false, reduceCtorEq, List.map_cons, List.map_nil, BEq.rfl, retQ_ret, retQ_normal, RX_nil, RX_tmp, RX_cell, one_nil, one_one, one_two, argEnv_nil, argEnv_cons, Nat.reduceAdd, List.length_cons, List.length_nil, List.cons_append, List.nil_append, List.drop_succ_cons, List.drop_zero, List.drop_nil, List.take_succ_cons, List.take_zero, List.headD_cons, Nat.reduceLeDiff, true_and, and_true, eq_self, Nat.le_refl, Nat.reduceLT, List.getD_cons_zero, List.getD_cons_succ, Int.reduceToNat, UInt8.reduceToNat, Nat.reduceMul, Nat.reduceAdd, Nat.reduceSub, Int.reduceLT, Int.reduceLE, Int.reduceAdd, Int.reduceSub, Int.reduceMul, Int.reduceEq, Int.reduceNe, Int.reduceNeg, Int.reduceTDiv, Int.reduceTMod, decide_true, decide_false, Nat.zero_add, Nat.mul_one, Int.cast_ofNat_Int, Int.toNat_zero, Bool.true_eq_false, Bool.false_eq_true, not_true_eq_false, not_false_eq_true, wrap_i64, ne_eq, Option.map_some, Bool.true_and, Bool.and_true, Bool.false_and, Bool.and_false])
      intro b2 hb2
      (try simp -dsimp -implicitDefEqProofs only [EV1, EV2, EV3, EV4, Nat.reduceEqDiff, ↓reduceIte, List.contains_cons, List.contains_nil, Nat.reduceBEq, Bool.or_false, Bool.false_or, Bool.or_true, Bool.true_or, Bool.not_true, Bool.not_false, reduceCtorEq, List.map_cons, List.map_nil, BEq.rfl, retQ_ret, retQ_normal, RX_nil, RX_tmp, RX_cell, one_nil, one_one, one_two, argEnv_nil, argEnv_cons, Nat.reduceAdd, List.length_cons, List.length_nil, List.cons_append, List.nil_append, List.drop_succ_cons, List.drop_zero, List.drop_nil, List.take_succ_cons, List.take_zero, List.headD_cons, Nat.reduceLeDiff, true_and, and_true, eq_self, Nat.le_refl, Nat.reduceLT, List.getD_cons_zero, List.getD_cons_succ, Int.reduceToNat, UInt8.reduceToNat, Nat.reduceMul, Nat.reduceAdd, Nat.reduceSub, Int.reduceLT, Int.reduceLE, Int.reduceAdd, Int.reduceSub, Int.reduceMul, Int.reduceEq, Int.reduceNe, Int.reduceNeg, Int.reduceTDiv, Int.reduceTMod, decide_true, decide_false, Nat.zero_add, Nat.mul_one, Int.cast_ofNat_Int, Int.toNat_zero, Bool.true_eq_false, Bool.false_eq_true, not_true_eq_false, not_false_eq_true, wrap_i64, ne_eq, Option.map_some, Bool.true_and, Bool.and_true, Bool.false_and, Bool.and_false, splice])
      exact hv _ rfl _
    | some t =>
      rw [hq] at hv h34
      simp only [singleAV, Tok.row] at h34
      refine CALL_pure h34 ?_
      (try simp -dsimp -implicitDefEqProofs only [EV1, EV2, EV3, EV4, Nat.reduceEqDiff, ↓reduceIte, List.contains_cons, List.contains_nil, Nat.reduceBEq, Bool.or_false, Bool.false_or, Bool.or_true, Bool.true_or, Bool.not_true, Bool.not_false, reduceCtorEq, List.map_cons, List.map_nil, BEq.rfl, retQ_ret, retQ_normal, RX_nil, RX_tmp, RX_cell, one_nil, one_one, one_two, argEnv_nil, argEnv_cons, Nat.reduceAdd, List.length_cons, List.length_nil, List.cons_append, List.nil_append, List.drop_succ_cons, List.drop_zero, List.drop_nil, List.take_succ_cons, List.take_zero, List.headD_cons, Nat.reduceLeDiff, true_and, and_true, eq_self, Nat.le_refl, Nat.reduceLT, List.getD_cons_zero, List.getD_cons_succ, Int.reduceToNat, UInt8.reduceToNat, Nat.reduceMul, Nat.reduceAdd, Nat.reduceSub, Int.reduceLT, Int.reduceLE, Int.reduceAdd, Int.reduceSub, Int.reduceMul, Int.reduceEq, Int.reduceNe, Int.reduceNeg, Int.reduceTDiv, Int.reduceTMod, decide_true, decide_false, Nat.zero_add, Nat.mul_one, Int.cast_ofNat_Int, Int.toNat_zero, Bool.true_eq_false, Bool.false_eq_true, not_true_eq_false, not_false_eq_true, wrap_i64, ne_eq, Option.map_some, Bool.true_and, Bool.and_true, Bool.false_and, Bool.and_false])
      intro b2 hb2
      have hne : ¬ b2 = b := by simpa [Store.keys] using hb2
      have hne2 : ¬ b = b2 := fun e => hne e.symm
      by_cases hk : (t.kind : Int) = k
      · have d1 : decide ((t.kind : Int) = k) = true := decide_eq_true hk
        (try simp -dsimp -implicitDefEqProofs only [EV1, EV2, EV3, EV4, Nat.reduceEqDiff, ↓reduceIte, List.contains_cons, List.contains_nil, Nat.reduceBEq, Bool.or_false, Bool.false_or, Bool.or_true, Bool.true_or, Bool.not_true, Bool.not_false, reduceCtorEq, List.map_cons, List.map_nil, BEq.rfl, retQ_ret, retQ_normal, RX_nil, RX_tmp, RX_cell, one_nil, one_one, one_two, argEnv_nil, argEnv_cons, Nat.reduceAdd, List.length_cons, List.length_nil, List.cons_append, List.nil_append, List.drop_succ_cons, List.drop_zero, List.drop_nil, List.take_succ_cons, List.take_zero, List.headD_cons, Nat.reduceLeDiff, true_and, and_true, eq_self, Nat.le_refl, Nat.reduceLT, List.getD_cons_zero, List.getD_cons_succ, Int.reduceToNat, UInt8.reduceToNat, Nat.reduceMul, Nat.reduceAdd, Nat.reduceSub, Int.reduceLT, Int.reduceLE, Int.reduceAdd, Int.reduceSub, Int.reduceMul, Int.reduceEq, Int.reduceNe, Int.reduceNeg, Int.reduceTDiv, Int.reduceTMod, decide_true, decide_false, Nat.zero_add, Nat.mul_one, Int.cast_ofNat_Int, Int.toNat_zero, Bool.true_eq_false, Bool.false_eq_true, not_true_eq_false, not_false_eq_true, wrap_i64, ne_eq, Option.map_some, Bool.true_and, Bool.and_true, Bool.false_and, Bool.and_false, splice, hne, hne2, d1])
        exact hv _ (by simp only [d1, Bool.true_and]) _
      · have d1 : decide ((t.kind : Int) = k) = false := decide_eq_false hk
        (try simp -dsimp -implicitDefEqProofs only [EV1, EV2, EV3, EV4, Nat.reduceEqDiff, ↓reduceIte, List.contains_cons, List.contains_nil, Nat.reduceBEq, Bool.or_false, Bool.false_or, Bool.or_true, Bool.true_or, Bool.not_true, Bool.not_false, reduceCtorEq, List.map_cons, List.map_nil, BEq.rfl, retQ_ret, retQ_normal, RX_nil, RX_tmp, RX_cell, one_nil, one_one, one_two, argEnv_nil, argEnv_cons, Nat.reduceAdd, List.length_cons, List.length_nil, List.cons_append, List.nil_append, List.drop_succ_cons, List.drop_zero, List.drop_nil, List.take_succ_cons, List.take_zero, List.headD_cons, Nat.reduceLeDiff, true_and, and_true, eq_self, Nat.le_refl, Nat.reduceLT, List.getD_cons_zero, List.getD_cons_succ, Int.reduceToNat, UInt8.reduceToNat, Nat.reduceMul, Nat.reduceAdd, Nat.reduceSub, Int.reduceLT, Int.reduceLE, Int.reduceAdd, Int.reduceSub, Int.reduceMul, Int.reduceEq, Int.reduceNe, Int.reduceNeg, Int.reduceTDiv, Int.reduceTMod, decide_true, decide_false, Nat.zero_add, Nat.mul_one, Int.cast_ofNat_Int, Int.toNat_zero, Bool.true_eq_false, Bool.false_eq_true, not_true_eq_false, not_false_eq_true, wrap_i64, ne_eq, Option.map_some, Bool.true_and, Bool.and_true, Bool.false_and, Bool.and_false, splice, hne, hne2, d1])
        exact hv _ (by simp only [d1, Bool.false_and]) _
  · have h := of_decide_eq_false h
    have e : pieceS k x = x := by rw [pieceS, if_neg h]
    rw [e] at hv h34
    (try simp -dsimp -implicitDefEqProofs only [EV1, EV2, EV3, EV4, Nat.reduceEqDiff, ↓reduceIte, List.contains_cons, List.contains_nil, Nat.reduceBEq, Bool.or_false, Bool.false_or, Bool.or_true, Bool.true_or, Bool.not_true, Bool.not_false, reduceCtorEq, List.map_cons, List.map_nil, BEq.rfl, retQ_ret, retQ_normal, RX_nil, RX_tmp, RX_cell, one_nil, one_one, one_two, argEnv_nil, argEnv_cons, Nat.reduceAdd, List.length_cons, List.length_nil, List.cons_append, List.nil_append, List.drop_succ_cons, List.drop_zero, List.drop_nil, List.take_succ_cons, List.take_zero, List.headD_cons, Nat.reduceLeDiff, true_and, and_true, eq_self, Nat.le_refl, Nat.reduceLT, List.getD_cons_zero, List.getD_cons_succ, Int.reduceToNat, UInt8.reduceToNat, Nat.reduceMul, Nat.reduceAdd, Nat.reduceSub, Int.reduceLT, Int.reduceLE, Int.reduceAdd, Int.reduceSub, Int.reduceMul, Int.reduceEq, Int.reduceNe, Int.reduceNeg, Int.reduceTDiv, Int.reduceTMod, decide_true, decide_false, Nat.zero_add, Nat.mul_one, Int.cast_ofNat_Int, Int.toNat_zero, Bool.true_eq_false, Bool.false_eq_true, not_true_eq_false, not_false_eq_true, wrap_i64, ne_eq, Option.map_some, Bool.true_and, Bool.and_true, Bool.false_and, Bool.and_false])
    cases hq : singleS x with
    | none =>
      rw [hq] at hv h34
      simp only [singleAV] at h34
      refine CALL_pure h34 ?_
      (try simp -dsimp -implicitDefEqProofs only [EV1, EV2, EV3, EV4, Nat.reduceEqDiff, ↓reduceIte, List.contains_cons, List.contains_nil, Nat.reduceBEq, Bool.or_false, Bool.false_or, Bool.or_true, Bool.true_or, Bool.not_true, Bool.not_false, reduceCtorEq, List.map_cons, List.map_nil, BEq.rfl, retQ_ret, retQ_normal, RX_nil, RX_tmp, RX_cell, one_nil, one_one, one_two, argEnv_nil, argEnv_cons, Nat.reduceAdd, List.length_cons, List.length_nil, List.cons_append, List.nil_append, List.drop_succ_cons, List.drop_zero, List.drop_nil, List.take_succ_cons, List.take_zero, List.headD_cons, Nat.reduceLeDiff, true_and, and_true, eq_self, Nat.le_refl, Nat.reduceLT, List.getD_cons_zero, List.getD_cons_succ, Int.reduceToNat, UInt8.reduceToNat, Nat.reduceMul, Nat.reduceAdd, Nat.reduceSub, Int.reduceLT, Int.reduceLE, Int.reduceAdd, Int.reduceSub, Int.reduceMul, Int.reduceEq, Int.reduceNe, Int.reduceNeg, Int.reduceTDiv, Int.reduceTMod, decide_true, decide_false, Nat.zero_add, Nat.mul_one, Int.cast_ofNat_Int, Int.toNat_zero, Bool.true_eq_false, Bool.false_eq_true, not_true_eq_false, not_false_eq_true, wrap_i64, ne_eq, Option.map_some, Bool.true_and, Bool.and_true, Bool.false_and, Bool.and_false])
      intro b2 hb2
      (try simp -dsimp -implicitDefEqProofs only [EV1, EV2, EV3, EV4, Nat.reduceEqDiff, ↓reduceIte, List.contains_cons, List.contains_nil, Nat.reduceBEq, Bool.or_false, Bool.false_or, Bool.or_true, Bool.true_or, Bool.not_true, Bool.not_false, reduceCtorEq, List.map_cons, List.map_nil, BEq.rfl, retQ_ret, retQ_normal, RX_nil, RX_tmp, RX_cell, one_nil, one_one, one_two, argEnv_nil, argEnv_cons, Nat.reduceAdd, List.length_cons, List.length_nil, List.cons_append, List.nil_append, List.drop_succ_cons, List.drop_zero, List.drop_nil, List.take_succ_cons, List.take_zero, List.headD_cons, Nat.reduceLeDiff, true_and, and_true, eq_self, Nat.le_refl, Nat.reduceLT, List.getD_cons_zero, List.getD_cons_succ, Int.reduceToNat, UInt8.reduceToNat, Nat.reduceMul, Nat.reduceAdd, Nat.reduceSub, Int.reduceLT, Int.reduceLE, Int.reduceAdd, Int.reduceSub, Int.reduceMul, Int.reduceEq, Int.reduceNe, Int.reduceNeg, Int.reduceTDiv, Int.reduceTMod, decide_true, decide_false, Nat.zero_add, Nat.mul_one, Int.cast_ofNat_Int, Int.toNat_zero, Bool.true_eq_false, Bool.false_eq_true, not_true_eq_false, not_false_eq_true, wrap_i64, ne_eq, Option.map_some, Bool.true_and, Bool.and_true, Bool.false_and, Bool.and_false, splice])
      exact hv _ rfl _
    | some t =>
      rw [hq] at hv h34
      simp only [singleAV, Tok.row] at h34
      refine CALL_pure h34 ?_
      (try simp -dsimp -implicitDefEqProofs only [EV1, EV2, EV3, EV4, Nat.reduceEqDiff, ↓reduceIte, List.contains_cons, List.contains_nil, Nat.reduceBEq, Bool.or_false, Bool.false_or, Bool.or_true, Bool.true_or, Bool.not_true, Bool.not_false, reduceCtorEq, List.map_cons, List.map_nil, BEq.rfl, retQ_ret, retQ_normal, RX_nil, RX_tmp, RX_cell, one_nil, one_one, one_two, argEnv_nil, argEnv_cons, Nat.reduceAdd, List.length_cons, List.length_nil, List.cons_append, List.nil_append, List.drop_succ_cons, List.drop_zero, List.drop_nil, List.take_succ_cons, List.take_zero, List.headD_cons, Nat.reduceLeDiff, true_and, and_true, eq_self, Nat.le_refl, Nat.reduceLT, List.getD_cons_zero, List.getD_cons_succ, Int.reduceToNat, UInt8.reduceToNat, Nat.reduceMul, Nat.reduceAdd, Nat.reduceSub, Int.reduceLT, Int.reduceLE, Int.reduceAdd, Int.reduceSub, Int.reduceMul, Int.reduceEq, Int.reduceNe, Int.reduceNeg, Int.reduceTDiv, Int.reduceTMod, decide_true, decide_false, Nat.zero_add, Nat.mul_one, Int.cast_ofNat_Int, Int.toNat_zero, Bool.true_eq_false, Bool.false_eq_true, not_true_eq_false, not_false_eq_true, wrap_i64, ne_eq, Option.map_some, Bool.true_and, Bool.and_true, Bool.false_and, Bool.and_false])
      intro b2 hb2
      have hne : ¬ b2 = b := by simpa [Store.keys] using hb2
      have hne2 : ¬ b = b2 := fun e => hne e.symm
      by_cases hk : (t.kind : Int) = k
      · have d1 : decide ((t.kind : Int) = k) = true := decide_eq_true hk
        (try simp -dsimp -implicitDefEqProofs only [EV1, EV2, EV3, EV4, Nat.reduceEqDiff, ↓reduceIte, List.contains_cons, List.contains_nil, Nat.reduceBEq, Bool.or_false, Bool.false_or, Bool.or_true, Bool.true_or, Bool.not_true, Bool.not_false, reduceCtorEq, List.map_cons, List.map_nil, BEq.rfl, retQ_ret, retQ_normal, RX_nil, RX_tmp, RX_cell, one_nil, one_one, one_two, argEnv_nil, argEnv_cons, Nat.reduceAdd, List.length_cons, List.length_nil, List.cons_append, List.nil_append, List.drop_succ_cons, List.drop_zero, List.drop_nil, List.take_succ_cons, List.take_zero, List.headD_cons, Nat.reduceLeDiff, true_and, and_true, eq_self, Nat.le_refl, Nat.reduceLT, List.getD_cons_zero, List.getD_cons_succ, Int.reduceToNat, UInt8.reduceToNat, Nat.reduceMul, Nat.reduceAdd, Nat.reduceSub, Int.reduceLT, Int.reduceLE, Int.reduceAdd, Int.reduceSub, Int.reduceMul, Int.reduceEq, Int.reduceNe, Int.reduceNeg, Int.reduceTDiv, Int.reduceTMod, decide_true, decide_false, Nat.zero_add, Nat.mul_one, Int.cast_ofNat_Int, Int.toNat_zero, Bool.true_eq_false, Bool.false_eq_true, not_true_eq_false, not_false_eq_true, wrap_i64, ne_eq, Option.map_some, Bool.true_and, Bool.and_true, Bool.false_and, Bool.and_false, splice, hne, hne2, d1])
        exact hv _ (by simp only [d1, Bool.true_and]) _
      · have d1 : decide ((t.kind : Int) = k) = false := decide_eq_false hk
        (try simp -dsimp -implicitDefEqProofs only [EV1, EV2, EV3, EV4, Nat.reduceEqDiff, ↓reduceIte, List.contains_cons, List.contains_nil, Nat.reduceBEq, Bool.or_false, Bool.false_or, Bool.or_true, Bool.true_or, Bool.not_true, Bool.not_false, reduceCtorEq, List.map_cons, List.map_nil, BEq.rfl, retQ_ret, retQ_normal, RX_nil, RX_tmp, RX_cell, one_nil, one_one, one_two, argEnv_nil, argEnv_cons, Nat.reduceAdd, List.length_cons, List.length_nil, List.cons_append, List.nil_append, List.drop_succ_cons, List.drop_zero, List.drop_nil, List.take_succ_cons, List.take_zero, List.headD_cons, Nat.reduceLeDiff, true_and, and_true, eq_self, Nat.le_refl, Nat.reduceLT, List.getD_cons_zero, List.getD_cons_succ, Int.reduceToNat, UInt8.reduceToNat, Nat.reduceMul, Nat.reduceAdd, Nat.reduceSub, Int.reduceLT, Int.reduceLE, Int.reduceAdd, Int.reduceSub, Int.reduceMul, Int.reduceEq, Int.reduceNe, Int.reduceNeg, Int.reduceTDiv, Int.reduceTMod, decide_true, decide_false, Nat.zero_add, Nat.mul_one, Int.cast_ofNat_Int, Int.toNat_zero, Bool.true_eq_false, Bool.false_eq_true, not_true_eq_false, not_false_eq_true, wrap_i64, ne_eq, Option.map_some, Bool.true_and, Bool.and_true, Bool.false_and, Bool.and_false, splice, hne, hne2, d1])
        exact hv _ (by simp only [d1, Bool.false_and]) _

theorem f39 (k a : Int) (x : List UInt8) (hx : x.length < 400000) : Pure G Tryz.prog 39 [.agg [.int .i64 k, .int .i64 a, .str x]] (.bool (aloneB k x)) := by
  refine Pure.w c39 fun R hR => ?_
  have hp := piece_len k x
  have hv : ∀ b, aloneB k x = b → ∀ σ, RET (.bool b) σ R := fun b h σ => RET.eq hR (by rw [h])
  clear hR
  unfold aloneB at hv
  have h12 := f12 G (pieceS k x) (by omega)
  unfold s39 r39
  (try simp -dsimp -implicitDefEqProofs only [EV1, EV2, EV3, EV4, Nat.reduceEqDiff, ↓reduceIte, List.contains_cons, List.contains_nil, Nat.reduceBEq, Bool.or_false, Bool.false_or, Bool.or_true, Bool.true_or, Bool.not_true, Bool.not_false, reduceCtorEq, List.map_cons, List.map_nil, BEq.rfl, retQ_ret, retQ_normal, RX_nil, RX_tmp, RX_cell, one_nil, one_one, one_two, argEnv_nil, argEnv_cons, Nat.reduceAdd, List.length_cons, List.length_nil, List.cons_append, List.nil_append, List.drop_succ_cons, List.drop_zero, List.drop_nil, List.take_succ_cons, List.take_zero, List.headD_cons, Nat.reduceLeDiff, true_and, and_true, eq_self, Nat.le_refl, Nat.reduceLT, List.getD_cons_zero, List.getD_cons_succ, Int.reduceToNat, UInt8.reduceToNat, Nat.reduceMul, Nat.reduceAdd, Nat.reduceSub, Int.reduceLT, Int.reduceLE, Int.reduceAdd, Int.reduceSub, Int.reduceMul, Int.reduceEq, Int.reduceNe, Int.reduceNeg, Int.reduceTDiv, Int.reduceTMod, decide_true, decide_false, Nat.zero_add, Nat.mul_one, Int.cast_ofNat_Int, Int.toNat_zero, Bool.true_eq_false, Bool.false_eq_true, not_true_eq_false, not_false_eq_true, wrap_i64, ne_eq, Option.map_some, Bool.true_and, Bool.and_true, Bool.false_and, Bool.and_false])
  intro b hb
  (try simp -dsimp -implicitDefEqProofs only [EV1, EV2, EV3, EV4, Nat.reduceEqDiff, ↓reduceIte, List.contains_cons, List.contains_nil, Nat.reduceBEq, Bool.or_false, Bool.false_or, Bool.or_true, Bool.true_or, Bool.not_true, Bool.not_false, reduceCtorEq, List.map_cons, List.map_nil, BEq.rfl, retQ_ret, retQ_normal, RX_nil, RX_tmp, RX_cell, one_nil, one_one, one_two, argEnv_nil, argEnv_cons, Nat.reduceAdd, List.length_cons, List.length_nil, List.cons_append, List.nil_append, List.drop_succ_cons, List.drop_zero, List.drop_nil, List.take_succ_cons, List.take_zero, List.headD_cons, Nat.reduceLeDiff, true_and, and_true, eq_self, Nat.le_refl, Nat.reduceLT, List.getD_cons_zero, List.getD_cons_succ, Int.reduceToNat, UInt8.reduceToNat, Nat.reduceMul, Nat.reduceAdd, Nat.reduceSub, Int.reduceLT, Int.reduceLE, Int.reduceAdd, Int.reduceSub, Int.reduceMul, Int.reduceEq, Int.reduceNe, Int.reduceNeg, Int.reduceTDiv, Int.reduceTMod, decide_true, decide_false, Nat.zero_add, Nat.mul_one, Int.cast_ofNat_Int, Int.toNat_zero, Bool.true_eq_false, Bool.false_eq_true, not_true_eq_false, not_false_eq_true, wrap_i64, ne_eq, Option.map_some, Bool.true_and, Bool.and_true, Bool.false_and, Bool.and_false])
  refine CALL_pure (f15 G k a x (by omega)) ?_
  (try simp -dsimp -implicitDefEqProofs only [EV1, EV2, EV3, EV4, Nat.reduceEqDiff, ↓reduceIte, List.contains_cons, List.contains_nil, Nat.reduceBEq, Bool.or_false, Bool.false_or, Bool.or_true, Bool.true_or, Bool.not_true, Bool.not_false, reduceCtorEq, List.map_cons, List.map_nil, BEq.rfl, retQ_ret, retQ_normal, RX_nil, RX_tmp, RX_cell, one_nil, one_one, one_two, argEnv_nil, argEnv_cons, Nat.reduceAdd, List.length_cons, List.length_nil, List.cons_append, List.nil_append, List.drop_succ_cons, List.drop_zero, List.drop_nil, List.take_succ_cons, List.take_zero, List.headD_cons, Nat.reduceLeDiff, true_and, and_true, eq_self, Nat.le_refl, Nat.reduceLT, List.getD_cons_zero, List.getD_cons_succ, Int.reduceToNat, UInt8.reduceToNat, Nat.reduceMul, Nat.reduceAdd, Nat.reduceSub, Int.reduceLT, Int.reduceLE, Int.reduceAdd, Int.reduceSub, Int.reduceMul, Int.reduceEq, Int.reduceNe, Int.reduceNeg, Int.reduceTDiv, Int.reduceTMod, decide_true, decide_false, Nat.zero_add, Nat.mul_one, Int.cast_ofNat_Int, Int.toNat_zero, Bool.true_eq_false, Bool.false_eq_true, not_true_eq_false, not_false_eq_true, wrap_i64, ne_eq, Option.map_some, Bool.true_and, Bool.and_true, Bool.false_and, Bool.and_false])
  cases hq : scanAt (pieceS k x) 0 with
  | bad n =>
    rw [hq] at hv h12
    simp only [Lx.av] at h12
    refine CALL_pure h12 ?_
    (try simp -dsimp -implicitDefEqProofs only [EV1, EV2, EV3, EV4, Nat.reduceEqDiff, ↓reduceIte, List.contains_cons, List.contains_nil, Nat.reduceBEq, Bool.or_false, Bool.false_or, Bool.or_true, Bool.true_or, Bool.not_true, Bool.not_false, reduceCtorEq, List.map_cons, List.map_nil, BEq.rfl, retQ_ret, retQ_normal, RX_nil, RX_tmp, RX_cell, one_nil, one_one, one_two, argEnv_nil, argEnv_cons, Nat.reduceAdd, List.length_cons, List.length_nil, List.cons_append, List.nil_append, List.drop_succ_cons, List.drop_zero, List.drop_nil, List.take_succ_cons, List.take_zero, List.headD_cons, Nat.reduceLeDiff, true_and, and_true, eq_self, Nat.le_refl, Nat.reduceLT, List.getD_cons_zero, List.getD_cons_succ, Int.reduceToNat, UInt8.reduceToNat, Nat.reduceMul, Nat.reduceAdd, Nat.reduceSub, Int.reduceLT, Int.reduceLE, Int.reduceAdd, Int.reduceSub, Int.reduceMul, Int.reduceEq, Int.reduceNe, Int.reduceNeg, Int.reduceTDiv, Int.reduceTMod, decide_true, decide_false, Nat.zero_add, Nat.mul_one, Int.cast_ofNat_Int, Int.toNat_zero, Bool.true_eq_false, Bool.false_eq_true, not_true_eq_false, not_false_eq_true, wrap_i64, ne_eq, Option.map_some, Bool.true_and, Bool.and_true, Bool.false_and, Bool.and_false])
    exact hv _ rfl _
  | good l =>
    rw [hq] at hv h12
    simp only [Lx.av] at h12
    refine CALL_pure h12 ?_
    match l, hv with
    | [], hv =>
      simp only [rowsT, List.map_nil]
      (try simp -dsimp -implicitDefEqProofs only [EV1, EV2, EV3, EV4, Nat.reduceEqDiff, ↓reduceIte, List.contains_cons, List.contains_nil, Nat.reduceBEq, Bool.or_false, Bool.false_or, Bool.or_true, Bool.true_or, Bool.not_true, Bool.not_false, reduceCtorEq, List.map_cons, List.map_nil, BEq.rfl, retQ_ret, retQ_normal, RX_nil, RX_tmp, RX_cell, one_nil, one_one, one_two, argEnv_nil, argEnv_cons, Nat.reduceAdd, List.length_cons, List.length_nil, List.cons_append, List.nil_append, List.drop_succ_cons, List.drop_zero, List.drop_nil, List.take_succ_cons, List.take_zero, List.headD_cons, Nat.reduceLeDiff, true_and, and_true, eq_self, Nat.le_refl, Nat.reduceLT, List.getD_cons_zero, List.getD_cons_succ, Int.reduceToNat, UInt8.reduceToNat, Nat.reduceMul, Nat.reduceAdd, Nat.reduceSub, Int.reduceLT, Int.reduceLE, Int.reduceAdd, Int.reduceSub, Int.reduceMul, Int.reduceEq, Int.reduceNe, Int.reduceNeg, Int.reduceTDiv, Int.reduceTMod, decide_true, decide_false, Nat.zero_add, Nat.mul_one, Int.cast_ofNat_Int, Int.toNat_zero, Bool.true_eq_false, Bool.false_eq_true, not_true_eq_false, not_false_eq_true, wrap_i64, ne_eq, Option.map_some, Bool.true_and, Bool.and_true, Bool.false_and, Bool.and_false])
      exact hv _ rfl _
    | [t], hv =>
      simp only [rowsT, List.map_cons, List.map_nil, Tok.row]
      by_cases hk : (t.kind : Int) = k
      · have d1 : decide ((t.kind : Int) = k) = true := decide_eq_true hk
        (try simp -dsimp -implicitDefEqProofs only [EV1, EV2, EV3, EV4, Nat.reduceEqDiff, ↓reduceIte, List.contains_cons, List.contains_nil, Nat.reduceBEq, Bool.or_false, Bool.false_or, Bool.or_true, Bool.true_or, Bool.not_true, Bool.not_false, reduceCtorEq, List.map_cons, List.map_nil, BEq.rfl, retQ_ret, retQ_normal, RX_nil, RX_tmp, RX_cell, one_nil, one_one, one_two, argEnv_nil, argEnv_cons, Nat.reduceAdd, List.length_cons, List.length_nil, List.cons_append, List.nil_append, List.drop_succ_cons, List.drop_zero, List.drop_nil, List.take_succ_cons, List.take_zero, List.headD_cons, Nat.reduceLeDiff, true_and, and_true, eq_self, Nat.le_refl, Nat.reduceLT, List.getD_cons_zero, List.getD_cons_succ, Int.reduceToNat, UInt8.reduceToNat, Nat.reduceMul, Nat.reduceAdd, Nat.reduceSub, Int.reduceLT, Int.reduceLE, Int.reduceAdd, Int.reduceSub, Int.reduceMul, Int.reduceEq, Int.reduceNe, Int.reduceNeg, Int.reduceTDiv, Int.reduceTMod, decide_true, decide_false, Nat.zero_add, Nat.mul_one, Int.cast_ofNat_Int, Int.toNat_zero, Bool.true_eq_false, Bool.false_eq_true, not_true_eq_false, not_false_eq_true, wrap_i64, ne_eq, Option.map_some, Bool.true_and, Bool.and_true, Bool.false_and, Bool.and_false, d1])
        exact hv _ (by simp only [d1, Bool.true_and]) _
      · have d1 : decide ((t.kind : Int) = k) = false := decide_eq_false hk
        (try simp -dsimp -implicitDefEqProofs only [EV1, EV2, EV3, EV4, Nat.reduceEqDiff, ↓reduceIte, List.contains_cons, List.contains_nil, Nat.reduceBEq, Bool.or_false, Bool.false_or, Bool.or_true, Bool.true_or, Bool.not_true, Bool.not_false, reduceCtorEq, List.map_cons, List.map_nil, BEq.rfl, retQ_ret, retQ_normal, RX_nil, RX_tmp, RX_cell, one_nil, one_one, one_two, argEnv_nil, argEnv_cons, Nat.reduceAdd, List.length_cons, List.length_nil, List.cons_append, List.nil_append, List.drop_succ_cons, List.drop_zero, List.drop_nil, List.take_succ_cons, List.take_zero, List.headD_cons, Nat.reduceLeDiff, true_and, and_true, eq_self, Nat.le_refl, Nat.reduceLT, List.getD_cons_zero, List.getD_cons_succ, Int.reduceToNat, UInt8.reduceToNat, Nat.reduceMul, Nat.reduceAdd, Nat.reduceSub, Int.reduceLT, Int.reduceLE, Int.reduceAdd, Int.reduceSub, Int.reduceMul, Int.reduceEq, Int.reduceNe, Int.reduceNeg, Int.reduceTDiv, Int.reduceTMod, decide_true, decide_false, Nat.zero_add, Nat.mul_one, Int.cast_ofNat_Int, Int.toNat_zero, Bool.true_eq_false, Bool.false_eq_true, not_true_eq_false, not_false_eq_true, wrap_i64, ne_eq, Option.map_some, Bool.true_and, Bool.and_true, Bool.false_and, Bool.and_false, d1])
        exact hv _ (by simp only [d1, Bool.false_and]) _
    | t1 :: t2 :: r, hv =>
      simp only [rowsT, List.map_cons]
      have e : decide ((((r.map Tok.row).length + 1 + 1 : Nat) : Int) = 1) = false := decide_eq_false (by omega)
      (try simp -dsimp -implicitDefEqProofs only [EV1, EV2, EV3, EV4, Nat.reduceEqDiff, ↓reduceIte, List.contains_cons, List.contains_nil, Nat.reduceBEq, Bool.or_false, Bool.false_or, Bool.or_true, Bool.true_or, Bool.not_true, Bool.not_false, reduceCtorEq, List.map_cons, List.map_nil, BEq.rfl, retQ_ret, retQ_normal, RX_nil, RX_tmp, RX_cell, one_nil, one_one, one_two, argEnv_nil, argEnv_cons, Nat.reduceAdd, List.length_cons, List.length_nil, List.cons_append, List.nil_append, List.drop_succ_cons, List.drop_zero, List.drop_nil, List.take_succ_cons, List.take_zero, List.headD_cons, Nat.reduceLeDiff, true_and, and_true, eq_self, Nat.le_refl, Nat.reduceLT, List.getD_cons_zero, List.getD_cons_succ, Int.reduceToNat, UInt8.reduceToNat, Nat.reduceMul, Nat.reduceAdd, Nat.reduceSub, Int.reduceLT, Int.reduceLE, Int.reduceAdd, Int.reduceSub, Int.reduceMul, Int.reduceEq, Int.reduceNe, Int.reduceNeg, Int.reduceTDiv, Int.reduceTMod, decide_true, decide_false, Nat.zero_add, Nat.mul_one, Int.cast_ofNat_Int, Int.toNat_zero, Bool.true_eq_false, Bool.false_eq_true, not_true_eq_false, not_false_eq_true, wrap_i64, ne_eq, Option.map_some, Bool.true_and, Bool.and_true, Bool.false_and, Bool.and_false, e])
      exact hv _ rfl _
end
end Go.Av

/-
  THE LEXER, 27: tokens as text, by the reference and by the program.
-/
namespace Go.Av
open Go Go.RowKit Go.Proofs
set_option linter.unusedSimpArgs false
set_option linter.unusedVariables false

def pieces (l : List ZTok) : List (List UInt8) := l.map ZTok.piece
def ZTok.alone (t : ZTok) : Bool := aloneB t.kind t.text
/-- What Format answers. -/
def formatS (l : List ZTok) : List UInt8 := if l.all ZTok.alone then Lib.join (pieces l) [32] else []

theorem join_pre (xs : List (List UInt8)) (sep : List UInt8) (i : Nat) : (Lib.join (xs.take i) sep).length ≤ (Lib.join xs sep).length := by
  cases xs with
  | nil => simp
  | cons x r =>
    cases i with
    | zero => simp [Lib.join_nil]
    | succ i =>
      rw [List.take_succ_cons, Lib.join_cons, Lib.join_cons, List.length_append, List.length_append]
      have := Lib.joinTail_take_le sep r i
      omega
theorem pieces_take (l : List ZTok) (i : Nat) (h : i < l.length) : (pieces l).take (i + 1) = (pieces l).take i ++ [(l.getD i default).piece] := by
  unfold pieces
  rw [← List.map_take, ← List.map_take, take_snocZ l i h, List.map_append]
  rfl
theorem join_zero (l : List ZTok) (h : 0 < l.length) : Lib.join ((pieces l).take 1) [32] = (l.getD 0 default).piece := by
  rw [pieces_take l 0 h]
  exact Lib.join_one _ _
theorem join_step (l : List ZTok) (i : Nat) (h : i < l.length) (hi : 0 < i) : Lib.join ((pieces l).take (i + 1)) [32] = Lib.join ((pieces l).take i) [32] ++ ([32] ++ (l.getD i default).piece) := by
  rw [pieces_take l i h]
  refine join_snoc _ _ _ ?_
  intro e
  have := congrArg List.length e
  simp only [pieces, List.length_take, List.length_map, List.length_nil] at this
  omega
theorem not_all (l : List ZTok) (i : Nat) (h : i < l.length) (ha : (l.getD i default).alone = false) : l.all ZTok.alone = false := by
  cases hq : l.all ZTok.alone with
  | false => rfl
  | true => rw [List.all_eq_true.1 hq _ (getZ_mem l i h)] at ha; cases ha
theorem all_snoc (l : List ZTok) (i : Nat) (h : i < l.length) (ht : (l.take i).all ZTok.alone = true) (ha : (l.getD i default).alone = true) : (l.take (i + 1)).all ZTok.alone = true := by
  rw [take_snocZ l i h, List.all_append, ht, List.all_cons, List.all_nil, ha]
  rfl

section
variable (G : Glob)

set_option maxHeartbeats 1000000 in
theorem f24 (l : List ZTok) (hl : l.length < 1000000) (ht : ∀ t ∈ l, t.text.length < 400000) (hj : (Lib.join (pieces l) [32]).length < 1000000) : Pure G Tryz.prog 24 [.lst 3 (rowsZ l)] (.str (formatS l)) := by
  refine Pure.w c24 fun R hR => ?_
  have hno : l.all ZTok.alone = false → ∀ σ, RET (.str []) σ R := fun h σ => RET.eq hR (by unfold formatS; rw [h]; rfl)
  have hyes : l.all ZTok.alone = true → ∀ σ, RET (.str (Lib.join (pieces l) [32])) σ R := fun h σ => RET.eq hR (by unfold formatS; rw [h]; rfl)
  clear hR
  unfold s24 r24
  (try simp -dsimp -implicitDefEqProofs only [EV1, EV2, EV3, EV4, Nat.reduceEqDiff, ↓reduceIte, List.contains_cons, List.contains_nil, Nat.reduceBEq, Bool.or_false, Bool.false_or, Bool.or_true, Bool.true_or, Bool.not_true, Bool.not_false, reduceCtorEq, List.map_cons, List.map_nil, BEq.rfl, retQ_ret, retQ_normal, RX_nil, RX_tmp, RX_cell, one_nil, one_one, one_two, argEnv_nil, argEnv_cons, Nat.reduceAdd, List.length_cons, List.length_nil, List.cons_append, List.nil_append, List.drop_succ_cons, List.drop_zero, List.drop_nil, List.take_succ_cons, List.take_zero, List.headD_cons, Nat.reduceLeDiff, true_and, and_true, eq_self, Nat.le_refl, Nat.reduceLT, List.getD_cons_zero, List.getD_cons_succ, Int.reduceToNat, UInt8.reduceToNat, Nat.reduceMul, Nat.reduceAdd, Nat.reduceSub, Int.reduceLT, Int.reduceLE, Int.reduceAdd, Int.reduceSub, Int.reduceMul, Int.reduceEq, Int.reduceNe, Int.reduceNeg, Int.reduceTDiv, Int.reduceTMod, decide_true, decide_false, Nat.zero_add, Nat.mul_one, Int.cast_ofNat_Int, Int.toNat_zero, Bool.true_eq_false, Bool.false_eq_true, not_true_eq_false, not_false_eq_true, wrap_i64, ne_eq, Option.map_some, Bool.true_and, Bool.and_true, Bool.false_and, Bool.and_false])
  refine W_loop (ι := Nat) (fun i => i ≤ l.length ∧ (l.take i).all ZTok.alone = true) (fun i => l.length - i) (fun i => [(0, .lst 3 (rowsZ l)), (3, .str (Lib.join ((pieces l).take i) [32])), (4, .int .i64 i)]) (fun _ => []) 0 ⟨by omega, by simp⟩ (Weak.rfl' _ _) ?_
  rintro i ⟨hi, hs⟩
  (try simp -dsimp -implicitDefEqProofs only [EV1, EV2, EV3, EV4, Nat.reduceEqDiff, ↓reduceIte, List.contains_cons, List.contains_nil, Nat.reduceBEq, Bool.or_false, Bool.false_or, Bool.or_true, Bool.true_or, Bool.not_true, Bool.not_false, reduceCtorEq, List.map_cons, List.map_nil, BEq.rfl, retQ_ret, retQ_normal, RX_nil, RX_tmp, RX_cell, one_nil, one_one, one_two, argEnv_nil, argEnv_cons, Nat.reduceAdd, List.length_cons, List.length_nil, List.cons_append, List.nil_append, List.drop_succ_cons, List.drop_zero, List.drop_nil, List.take_succ_cons, List.take_zero, List.headD_cons, Nat.reduceLeDiff, true_and, and_true, eq_self, Nat.le_refl, Nat.reduceLT, List.getD_cons_zero, List.getD_cons_succ, Int.reduceToNat, UInt8.reduceToNat, Nat.reduceMul, Nat.reduceAdd, Nat.reduceSub, Int.reduceLT, Int.reduceLE, Int.reduceAdd, Int.reduceSub, Int.reduceMul, Int.reduceEq, Int.reduceNe, Int.reduceNeg, Int.reduceTDiv, Int.reduceTMod, decide_true, decide_false, Nat.zero_add, Nat.mul_one, Int.cast_ofNat_Int, Int.toNat_zero, Bool.true_eq_false, Bool.false_eq_true, not_true_eq_false, not_false_eq_true, wrap_i64, ne_eq, Option.map_some, Bool.true_and, Bool.and_true, Bool.false_and, Bool.and_false, rowsZ_len])
  refine split_case (fun h2 => ?_) (fun h2 => ?_)
  · have h2 := of_decide_eq_true h2
    have hi1 : i < l.length := by omega
    have hw : IntKind.i64.wrap ((i : Int) + 1) = (i : Int) + 1 := wrap_i64 (by omega) (by omega)
    have g1 := rowsZ_get l i hi1
    have t2 := ht _ (getZ_mem l i hi1)
    have n1 := not_all l i hi1
    have n2 := all_snoc l i hi1 hs
    have n3 := join_step l i hi1
    have n4 : i = 0 → Lib.join ((pieces l).take 1) [32] = (l.getD i default).piece := by rintro rfl; exact join_zero l hi1
    have j1 := join_pre (pieces l) [32] i
    have j2 := join_pre (pieces l) [32] (i + 1)
    obtain ⟨x, hx⟩ : ∃ x, l.getD i default = x := ⟨_, rfl⟩
    rw [hx] at g1 t2 n1 n2 n3 n4
    have h39 := f39 G x.kind x.at_ x.text t2
    have h15 := f15 G x.kind x.at_ x.text (by omega)
    have hpl := piece_len x.kind x.text
    (try simp -dsimp -implicitDefEqProofs only [EV1, EV2, EV3, EV4, Nat.reduceEqDiff, ↓reduceIte, List.contains_cons, List.contains_nil, Nat.reduceBEq, Bool.or_false, Bool.false_or, Bool.or_true, Bool.true_or, Bool.not_true, Bool.not_false, reduceCtorEq, List.map_cons, List.map_nil, BEq.rfl, retQ_ret, retQ_normal, RX_nil, RX_tmp, RX_cell, one_nil, one_one, one_two, argEnv_nil, argEnv_cons, Nat.reduceAdd, List.length_cons, List.length_nil, List.cons_append, List.nil_append, List.drop_succ_cons, List.drop_zero, List.drop_nil, List.take_succ_cons, List.take_zero, List.headD_cons, Nat.reduceLeDiff, true_and, and_true, eq_self, Nat.le_refl, Nat.reduceLT, List.getD_cons_zero, List.getD_cons_succ, Int.reduceToNat, UInt8.reduceToNat, Nat.reduceMul, Nat.reduceAdd, Nat.reduceSub, Int.reduceLT, Int.reduceLE, Int.reduceAdd, Int.reduceSub, Int.reduceMul, Int.reduceEq, Int.reduceNe, Int.reduceNeg, Int.reduceTDiv, Int.reduceTMod, decide_true, decide_false, Nat.zero_add, Nat.mul_one, Int.cast_ofNat_Int, Int.toNat_zero, Bool.true_eq_false, Bool.false_eq_true, not_true_eq_false, not_false_eq_true, wrap_i64, ne_eq, Option.map_some, Bool.true_and, Bool.and_true, Bool.false_and, Bool.and_false, rowsZ_len, Int.toNat_natCast, g1])
    refine ⟨by omega, by omega, ?_⟩
    refine CALL_pure h39 ?_
    cases ha : aloneB x.kind x.text with
    | false =>
      (try simp -dsimp -implicitDefEqProofs only [EV1, EV2, EV3, EV4, Nat.reduceEqDiff, ↓reduceIte, List.contains_cons, List.contains_nil, Nat.reduceBEq, Bool.or_false, Bool.false_or, Bool.or_true, Bool.true_or, Bool.not_true, Bool.not_false, reduceCtorEq, List.map_cons, List.map_nil, BEq.rfl, retQ_ret, retQ_normal, RX_nil, RX_tmp, RX_cell, one_nil, one_one, one_two, argEnv_nil, argEnv_cons, Nat.reduceAdd, List.length_cons, List.length_nil, List.cons_append, List.nil_append, List.drop_succ_cons, List.drop_zero, List.drop_nil, List.take_succ_cons, List.take_zero, List.headD_cons, Nat.reduceLeDiff, true_and, and_true, eq_self, Nat.le_refl, Nat.reduceLT, List.getD_cons_zero, List.getD_cons_succ, Int.reduceToNat, UInt8.reduceToNat, Nat.reduceMul, Nat.reduceAdd, Nat.reduceSub, Int.reduceLT, Int.reduceLE, Int.reduceAdd, Int.reduceSub, Int.reduceMul, Int.reduceEq, Int.reduceNe, Int.reduceNeg, Int.reduceTDiv, Int.reduceTMod, decide_true, decide_false, Nat.zero_add, Nat.mul_one, Int.cast_ofNat_Int, Int.toNat_zero, Bool.true_eq_false, Bool.false_eq_true, not_true_eq_false, not_false_eq_true, wrap_i64, ne_eq, Option.map_some, Bool.true_and, Bool.and_true, Bool.false_and, Bool.and_false])
      exact hno (n1 ha) _
    | true =>
      (try simp -dsimp -implicitDefEqProofs only [EV1, EV2, EV3, EV4, Nat.reduceEqDiff, ↓reduceIte, List.contains_cons, List.contains_nil, Nat.reduceBEq, Bool.or_false, Bool.false_or, Bool.or_true, Bool.true_or, Bool.not_true, Bool.not_false, reduceCtorEq, List.map_cons, List.map_nil, BEq.rfl, retQ_ret, retQ_normal, RX_nil, RX_tmp, RX_cell, one_nil, one_one, one_two, argEnv_nil, argEnv_cons, Nat.reduceAdd, List.length_cons, List.length_nil, List.cons_append, List.nil_append, List.drop_succ_cons, List.drop_zero, List.drop_nil, List.take_succ_cons, List.take_zero, List.headD_cons, Nat.reduceLeDiff, true_and, and_true, eq_self, Nat.le_refl, Nat.reduceLT, List.getD_cons_zero, List.getD_cons_succ, Int.reduceToNat, UInt8.reduceToNat, Nat.reduceMul, Nat.reduceAdd, Nat.reduceSub, Int.reduceLT, Int.reduceLE, Int.reduceAdd, Int.reduceSub, Int.reduceMul, Int.reduceEq, Int.reduceNe, Int.reduceNeg, Int.reduceTDiv, Int.reduceTMod, decide_true, decide_false, Nat.zero_add, Nat.mul_one, Int.cast_ofNat_Int, Int.toNat_zero, Bool.true_eq_false, Bool.false_eq_true, not_true_eq_false, not_false_eq_true, wrap_i64, ne_eq, Option.map_some, Bool.true_and, Bool.and_true, Bool.false_and, Bool.and_false])
      refine split_case (fun h3 => ?_) (fun h3 => ?_)
      · have h3 := of_decide_eq_true h3
        (try simp -dsimp -implicitDefEqProofs only [EV1, EV2, EV3, EV4, Nat.reduceEqDiff, ↓reduceIte, List.contains_cons, List.contains_nil, Nat.reduceBEq, Bool.or_false, Bool.false_or, Bool.or_true, Bool.true_or, Bool.not_true, Bool.not_false, reduceCtorEq, List.map_cons, List.map_nil, BEq.rfl, retQ_ret, retQ_normal, RX_nil, RX_tmp, RX_cell, one_nil, one_one, one_two, argEnv_nil, argEnv_cons, Nat.reduceAdd, List.length_cons, List.length_nil, List.cons_append, List.nil_append, List.drop_succ_cons, List.drop_zero, List.drop_nil, List.take_succ_cons, List.take_zero, List.headD_cons, Nat.reduceLeDiff, true_and, and_true, eq_self, Nat.le_refl, Nat.reduceLT, List.getD_cons_zero, List.getD_cons_succ, Int.reduceToNat, UInt8.reduceToNat, Nat.reduceMul, Nat.reduceAdd, Nat.reduceSub, Int.reduceLT, Int.reduceLE, Int.reduceAdd, Int.reduceSub, Int.reduceMul, Int.reduceEq, Int.reduceNe, Int.reduceNeg, Int.reduceTDiv, Int.reduceTMod, decide_true, decide_false, Nat.zero_add, Nat.mul_one, Int.cast_ofNat_Int, Int.toNat_zero, Bool.true_eq_false, Bool.false_eq_true, not_true_eq_false, not_false_eq_true, wrap_i64, ne_eq, Option.map_some, Bool.true_and, Bool.and_true, Bool.false_and, Bool.and_false, rowsZ_len, Int.toNat_natCast, g1])
        refine ⟨by omega, by omega, by omega, ?_⟩
        refine CALL_pure h15 ?_
        (try simp -dsimp -implicitDefEqProofs only [EV1, EV2, EV3, EV4, Nat.reduceEqDiff, ↓reduceIte, List.contains_cons, List.contains_nil, Nat.reduceBEq, Bool.or_false, Bool.false_or, Bool.or_true, Bool.true_or, Bool.not_true, Bool.not_false, reduceCtorEq, List.map_cons, List.map_nil, BEq.rfl, retQ_ret, retQ_normal, RX_nil, RX_tmp, RX_cell, one_nil, one_one, one_two, argEnv_nil, argEnv_cons, Nat.reduceAdd, List.length_cons, List.length_nil, List.cons_append, List.nil_append, List.drop_succ_cons, List.drop_zero, List.drop_nil, List.take_succ_cons, List.take_zero, List.headD_cons, Nat.reduceLeDiff, true_and, and_true, eq_self, Nat.le_refl, Nat.reduceLT, List.getD_cons_zero, List.getD_cons_succ, Int.reduceToNat, UInt8.reduceToNat, Nat.reduceMul, Nat.reduceAdd, Nat.reduceSub, Int.reduceLT, Int.reduceLE, Int.reduceAdd, Int.reduceSub, Int.reduceMul, Int.reduceEq, Int.reduceNe, Int.reduceNeg, Int.reduceTDiv, Int.reduceTMod, decide_true, decide_false, Nat.zero_add, Nat.mul_one, Int.cast_ofNat_Int, Int.toNat_zero, Bool.true_eq_false, Bool.false_eq_true, not_true_eq_false, not_false_eq_true, wrap_i64, ne_eq, Option.map_some, Bool.true_and, Bool.and_true, Bool.false_and, Bool.and_false, hw])
        refine ⟨by simp only [List.length_append, List.length_cons, List.length_nil]; omega, i + 1, ⟨by omega, n2 ha⟩, by omega, ?_⟩
        rw [n3 (by omega), ← List.append_assoc]
        exact Weak.of ⟨AVle.rfl' _, AVle.rfl' _, AVle.rfl' _, trivial⟩ (SubN.refl _)
      · have h3 := of_decide_eq_false h3
        obtain rfl : i = 0 := by omega
        (try simp -dsimp -implicitDefEqProofs only [EV1, EV2, EV3, EV4, Nat.reduceEqDiff, ↓reduceIte, List.contains_cons, List.contains_nil, Nat.reduceBEq, Bool.or_false, Bool.false_or, Bool.or_true, Bool.true_or, Bool.not_true, Bool.not_false, reduceCtorEq, List.map_cons, List.map_nil, BEq.rfl, retQ_ret, retQ_normal, RX_nil, RX_tmp, RX_cell, one_nil, one_one, one_two, argEnv_nil, argEnv_cons, Nat.reduceAdd, List.length_cons, List.length_nil, List.cons_append, List.nil_append, List.drop_succ_cons, List.drop_zero, List.drop_nil, List.take_succ_cons, List.take_zero, List.headD_cons, Nat.reduceLeDiff, true_and, and_true, eq_self, Nat.le_refl, Nat.reduceLT, List.getD_cons_zero, List.getD_cons_succ, Int.reduceToNat, UInt8.reduceToNat, Nat.reduceMul, Nat.reduceAdd, Nat.reduceSub, Int.reduceLT, Int.reduceLE, Int.reduceAdd, Int.reduceSub, Int.reduceMul, Int.reduceEq, Int.reduceNe, Int.reduceNeg, Int.reduceTDiv, Int.reduceTMod, decide_true, decide_false, Nat.zero_add, Nat.mul_one, Int.cast_ofNat_Int, Int.toNat_zero, Bool.true_eq_false, Bool.false_eq_true, not_true_eq_false, not_false_eq_true, wrap_i64, ne_eq, Option.map_some, Bool.true_and, Bool.and_true, Bool.false_and, Bool.and_false, rowsZ_len, Int.toNat_natCast, g1])
        refine ⟨by omega, ?_⟩
        refine CALL_pure h15 ?_
        have e0 : Lib.join ([] : List (List UInt8)) [32] = [] := rfl
        (try simp -dsimp -implicitDefEqProofs only [EV1, EV2, EV3, EV4, Nat.reduceEqDiff, ↓reduceIte, List.contains_cons, List.contains_nil, Nat.reduceBEq, Bool.or_false, Bool.false_or, Bool.or_true, Bool.true_or, Bool.not_true, Bool.not_false, reduceCtorEq, List.map_cons, List.map_nil, BEq.rfl, retQ_ret, retQ_normal, RX_nil, RX_tmp, RX_cell, one_nil, one_one, one_two, argEnv_nil, argEnv_cons, Nat.reduceAdd, List.length_cons, List.length_nil, List.cons_append, List.nil_append, List.drop_succ_cons, List.drop_zero, List.drop_nil, List.take_succ_cons, List.take_zero, List.headD_cons, Nat.reduceLeDiff, true_and, and_true, eq_self, Nat.le_refl, Nat.reduceLT, List.getD_cons_zero, List.getD_cons_succ, Int.reduceToNat, UInt8.reduceToNat, Nat.reduceMul, Nat.reduceAdd, Nat.reduceSub, Int.reduceLT, Int.reduceLE, Int.reduceAdd, Int.reduceSub, Int.reduceMul, Int.reduceEq, Int.reduceNe, Int.reduceNeg, Int.reduceTDiv, Int.reduceTMod, decide_true, decide_false, Nat.zero_add, Nat.mul_one, Int.cast_ofNat_Int, Int.toNat_zero, Bool.true_eq_false, Bool.false_eq_true, not_true_eq_false, not_false_eq_true, wrap_i64, ne_eq, Option.map_some, Bool.true_and, Bool.and_true, Bool.false_and, Bool.and_false, hw, e0])
        refine ⟨by omega, 1, ⟨by omega, n2 ha⟩, by omega, ?_⟩
        rw [n4 rfl]
        exact Weak.of ⟨AVle.rfl' _, AVle.rfl' _, AVle.rfl' _, trivial⟩ (SubN.refl _)
  · have h2 := of_decide_eq_false h2
    obtain rfl : i = l.length := by omega
    rw [List.take_length] at hs
    (try simp -dsimp -implicitDefEqProofs only [EV1, EV2, EV3, EV4, Nat.reduceEqDiff, ↓reduceIte, List.contains_cons, List.contains_nil, Nat.reduceBEq, Bool.or_false, Bool.false_or, Bool.or_true, Bool.true_or, Bool.not_true, Bool.not_false, reduceCtorEq, List.map_cons, List.map_nil, BEq.rfl, retQ_ret, retQ_normal, RX_nil, RX_tmp, RX_cell, one_nil, one_one, one_two, argEnv_nil, argEnv_cons, Nat.reduceAdd, List.length_cons, List.length_nil, List.cons_append, List.nil_append, List.drop_succ_cons, List.drop_zero, List.drop_nil, List.take_succ_cons, List.take_zero, List.headD_cons, Nat.reduceLeDiff, true_and, and_true, eq_self, Nat.le_refl, Nat.reduceLT, List.getD_cons_zero, List.getD_cons_succ, Int.reduceToNat, UInt8.reduceToNat, Nat.reduceMul, Nat.reduceAdd, Nat.reduceSub, Int.reduceLT, Int.reduceLE, Int.reduceAdd, Int.reduceSub, Int.reduceMul, Int.reduceEq, Int.reduceNe, Int.reduceNeg, Int.reduceTDiv, Int.reduceTMod, decide_true, decide_false, Nat.zero_add, Nat.mul_one, Int.cast_ofNat_Int, Int.toNat_zero, Bool.true_eq_false, Bool.false_eq_true, not_true_eq_false, not_false_eq_true, wrap_i64, ne_eq, Option.map_some, Bool.true_and, Bool.and_true, Bool.false_and, Bool.and_false])
    have e : (pieces l).take l.length = pieces l := List.take_of_length_le (by simp [pieces])
    rw [e]
    exact hyes hs _

set_option maxHeartbeats 1000000 in
theorem f23 (l : List ZTok) (hl : l.length < 1000000) (ht : ∀ t ∈ l, t.text.length < 400000) (hj : (Lib.join (pieces l) [32]).length < 1000000) : Pure G Tryz.prog 23 [.lst 3 (rowsZ l)] (.str (formatS l)) := by
  refine Pure.w c23 fun R hR => ?_
  have hno : l.all ZTok.alone = false → ∀ σ, RET (.str []) σ R := fun h σ => RET.eq hR (by unfold formatS; rw [h]; rfl)
  have hyes : l.all ZTok.alone = true → ∀ σ, RET (.str (Lib.join (pieces l) [32])) σ R := fun h σ => RET.eq hR (by unfold formatS; rw [h]; rfl)
  clear hR
  unfold s23 r23
  (try simp -dsimp -implicitDefEqProofs only [EV1, EV2, EV3, EV4, Nat.reduceEqDiff, ↓reduceIte, List.contains_cons, List.contains_nil, Nat.reduceBEq, Bool.or_false, Bool.false_or, Bool.or_true, Bool.true_or, Bool.not_true, Bool.not_false, reduceCtorEq, List.map_cons, List.map_nil, BEq.rfl, retQ_ret, retQ_normal, RX_nil, RX_tmp, RX_cell, one_nil, one_one, one_two, argEnv_nil, argEnv_cons, Nat.reduceAdd, List.length_cons, List.length_nil, List.cons_append, List.nil_append, List.drop_succ_cons, List.drop_zero, List.drop_nil, List.take_succ_cons, List.take_zero, List.headD_cons, Nat.reduceLeDiff, true_and, and_true, eq_self, Nat.le_refl, Nat.reduceLT, List.getD_cons_zero, List.getD_cons_succ, Int.reduceToNat, UInt8.reduceToNat, Nat.reduceMul, Nat.reduceAdd, Nat.reduceSub, Int.reduceLT, Int.reduceLE, Int.reduceAdd, Int.reduceSub, Int.reduceMul, Int.reduceEq, Int.reduceNe, Int.reduceNeg, Int.reduceTDiv, Int.reduceTMod, decide_true, decide_false, Nat.zero_add, Nat.mul_one, Int.cast_ofNat_Int, Int.toNat_zero, Bool.true_eq_false, Bool.false_eq_true, not_true_eq_false, not_false_eq_true, wrap_i64, ne_eq, Option.map_some, Bool.true_and, Bool.and_true, Bool.false_and, Bool.and_false, rowsZ_len])
  refine W_loop (ι := Option Nat × Nat) (fun p => p.2 ≤ l.length ∧ (l.take p.2).all ZTok.alone = true) (fun p => l.length - p.2) (fun p => [(3, .own p.1 9 1 (strRows ((pieces l).take p.2))), (8, .lst 3 (rowsZ l)), (9, .int .i64 l.length), (10, .int .i64 p.2)]) (fun p => tokS p.1 9 ((strRows ((pieces l).take p.2)).length * 1)) (none, 0) ⟨Nat.zero_le _, rfl⟩ (Weak.of ⟨.inl (.inr ⟨rfl, rfl⟩), AVle.rfl' _, AVle.rfl' _, AVle.rfl' _, trivial⟩ (SubN.refl _)) ?_
  rintro ⟨g, i⟩ ⟨hi, hs⟩
  simp only at hi hs ⊢
  (try simp -dsimp -implicitDefEqProofs only [EV1, EV2, EV3, EV4, Nat.reduceEqDiff, ↓reduceIte, List.contains_cons, List.contains_nil, Nat.reduceBEq, Bool.or_false, Bool.false_or, Bool.or_true, Bool.true_or, Bool.not_true, Bool.not_false, reduceCtorEq, List.map_cons, List.map_nil, BEq.rfl, retQ_ret, retQ_normal, RX_nil, RX_tmp, RX_cell, one_nil, one_one, one_two, argEnv_nil, argEnv_cons, Nat.reduceAdd, List.length_cons, List.length_nil, List.cons_append, List.nil_append, List.drop_succ_cons, List.drop_zero, List.drop_nil, List.take_succ_cons, List.take_zero, List.headD_cons, Nat.reduceLeDiff, true_and, and_true, eq_self, Nat.le_refl, Nat.reduceLT, List.getD_cons_zero, List.getD_cons_succ, Int.reduceToNat, UInt8.reduceToNat, Nat.reduceMul, Nat.reduceAdd, Nat.reduceSub, Int.reduceLT, Int.reduceLE, Int.reduceAdd, Int.reduceSub, Int.reduceMul, Int.reduceEq, Int.reduceNe, Int.reduceNeg, Int.reduceTDiv, Int.reduceTMod, decide_true, decide_false, Nat.zero_add, Nat.mul_one, Int.cast_ofNat_Int, Int.toNat_zero, Bool.true_eq_false, Bool.false_eq_true, not_true_eq_false, not_false_eq_true, wrap_i64, ne_eq, Option.map_some, Bool.true_and, Bool.and_true, Bool.false_and, Bool.and_false])
  refine split_case (fun h2 => ?_) (fun h2 => ?_)
  · have h2 := of_decide_eq_true h2
    have hi1 : i < l.length := by omega
    have hw : IntKind.i64.wrap ((i : Int) + 1) = (i : Int) + 1 := wrap_i64 (by omega) (by omega)
    have g1 := rowsZ_get l i hi1
    have t2 := ht _ (getZ_mem l i hi1)
    have n1 := not_all l i hi1
    have n2 := all_snoc l i hi1 hs
    have n3 := pieces_take l i hi1
    obtain ⟨x, hx⟩ : ∃ x, l.getD i default = x := ⟨_, rfl⟩
    rw [hx] at g1 t2 n1 n2 n3
    have h37 := f37 G x.kind x.at_ x.text t2
    rw [ok_alone] at h37
    (try simp -dsimp -implicitDefEqProofs only [EV1, EV2, EV3, EV4, Nat.reduceEqDiff, ↓reduceIte, List.contains_cons, List.contains_nil, Nat.reduceBEq, Bool.or_false, Bool.false_or, Bool.or_true, Bool.true_or, Bool.not_true, Bool.not_false, reduceCtorEq, List.map_cons, List.map_nil, BEq.rfl, retQ_ret, retQ_normal, RX_nil, RX_tmp, RX_cell, one_nil, one_one, one_two, argEnv_nil, argEnv_cons, Nat.reduceAdd, List.length_cons, List.length_nil, List.cons_append, List.nil_append, List.drop_succ_cons, List.drop_zero, List.drop_nil, List.take_succ_cons, List.take_zero, List.headD_cons, Nat.reduceLeDiff, true_and, and_true, eq_self, Nat.le_refl, Nat.reduceLT, List.getD_cons_zero, List.getD_cons_succ, Int.reduceToNat, UInt8.reduceToNat, Nat.reduceMul, Nat.reduceAdd, Nat.reduceSub, Int.reduceLT, Int.reduceLE, Int.reduceAdd, Int.reduceSub, Int.reduceMul, Int.reduceEq, Int.reduceNe, Int.reduceNeg, Int.reduceTDiv, Int.reduceTMod, decide_true, decide_false, Nat.zero_add, Nat.mul_one, Int.cast_ofNat_Int, Int.toNat_zero, Bool.true_eq_false, Bool.false_eq_true, not_true_eq_false, not_false_eq_true, wrap_i64, ne_eq, Option.map_some, Bool.true_and, Bool.and_true, Bool.false_and, Bool.and_false, rowsZ_len, Int.toNat_natCast, g1])
    refine ⟨by omega, by omega, fun b hb => ?_⟩
    (try simp -dsimp -implicitDefEqProofs only [EV1, EV2, EV3, EV4, Nat.reduceEqDiff, ↓reduceIte, List.contains_cons, List.contains_nil, Nat.reduceBEq, Bool.or_false, Bool.false_or, Bool.or_true, Bool.true_or, Bool.not_true, Bool.not_false, reduceCtorEq, List.map_cons, List.map_nil, BEq.rfl, retQ_ret, retQ_normal, RX_nil, RX_tmp, RX_cell, one_nil, one_one, one_two, argEnv_nil, argEnv_cons, Nat.reduceAdd, List.length_cons, List.length_nil, List.cons_append, List.nil_append, List.drop_succ_cons, List.drop_zero, List.drop_nil, List.take_succ_cons, List.take_zero, List.headD_cons, Nat.reduceLeDiff, true_and, and_true, eq_self, Nat.le_refl, Nat.reduceLT, List.getD_cons_zero, List.getD_cons_succ, Int.reduceToNat, UInt8.reduceToNat, Nat.reduceMul, Nat.reduceAdd, Nat.reduceSub, Int.reduceLT, Int.reduceLE, Int.reduceAdd, Int.reduceSub, Int.reduceMul, Int.reduceEq, Int.reduceNe, Int.reduceNeg, Int.reduceTDiv, Int.reduceTMod, decide_true, decide_false, Nat.zero_add, Nat.mul_one, Int.cast_ofNat_Int, Int.toNat_zero, Bool.true_eq_false, Bool.false_eq_true, not_true_eq_false, not_false_eq_true, wrap_i64, ne_eq, Option.map_some, Bool.true_and, Bool.and_true, Bool.false_and, Bool.and_false])
    refine CALL_pure h37 ?_
    cases ha : aloneB x.kind x.text with
    | false =>
      (try simp -dsimp -implicitDefEqProofs only [EV1, EV2, EV3, EV4, Nat.reduceEqDiff, ↓reduceIte, List.contains_cons, List.contains_nil, Nat.reduceBEq, Bool.or_false, Bool.false_or, Bool.or_true, Bool.true_or, Bool.not_true, Bool.not_false, reduceCtorEq, List.map_cons, List.map_nil, BEq.rfl, retQ_ret, retQ_normal, RX_nil, RX_tmp, RX_cell, one_nil, one_one, one_two, argEnv_nil, argEnv_cons, Nat.reduceAdd, List.length_cons, List.length_nil, List.cons_append, List.nil_append, List.drop_succ_cons, List.drop_zero, List.drop_nil, List.take_succ_cons, List.take_zero, List.headD_cons, Nat.reduceLeDiff, true_and, and_true, eq_self, Nat.le_refl, Nat.reduceLT, List.getD_cons_zero, List.getD_cons_succ, Int.reduceToNat, UInt8.reduceToNat, Nat.reduceMul, Nat.reduceAdd, Nat.reduceSub, Int.reduceLT, Int.reduceLE, Int.reduceAdd, Int.reduceSub, Int.reduceMul, Int.reduceEq, Int.reduceNe, Int.reduceNeg, Int.reduceTDiv, Int.reduceTMod, decide_true, decide_false, Nat.zero_add, Nat.mul_one, Int.cast_ofNat_Int, Int.toNat_zero, Bool.true_eq_false, Bool.false_eq_true, not_true_eq_false, not_false_eq_true, wrap_i64, ne_eq, Option.map_some, Bool.true_and, Bool.and_true, Bool.false_and, Bool.and_false])
      exact hno (n1 ha) _
    | true =>
      (try simp -dsimp -implicitDefEqProofs only [EV1, EV2, EV3, EV4, Nat.reduceEqDiff, ↓reduceIte, List.contains_cons, List.contains_nil, Nat.reduceBEq, Bool.or_false, Bool.false_or, Bool.or_true, Bool.true_or, Bool.not_true, Bool.not_false, reduceCtorEq, List.map_cons, List.map_nil, BEq.rfl, retQ_ret, retQ_normal, RX_nil, RX_tmp, RX_cell, one_nil, one_one, one_two, argEnv_nil, argEnv_cons, Nat.reduceAdd, List.length_cons, List.length_nil, List.cons_append, List.nil_append, List.drop_succ_cons, List.drop_zero, List.drop_nil, List.take_succ_cons, List.take_zero, List.headD_cons, Nat.reduceLeDiff, true_and, and_true, eq_self, Nat.le_refl, Nat.reduceLT, List.getD_cons_zero, List.getD_cons_succ, Int.reduceToNat, UInt8.reduceToNat, Nat.reduceMul, Nat.reduceAdd, Nat.reduceSub, Int.reduceLT, Int.reduceLE, Int.reduceAdd, Int.reduceSub, Int.reduceMul, Int.reduceEq, Int.reduceNe, Int.reduceNeg, Int.reduceTDiv, Int.reduceTMod, decide_true, decide_false, Nat.zero_add, Nat.mul_one, Int.cast_ofNat_Int, Int.toNat_zero, Bool.true_eq_false, Bool.false_eq_true, not_true_eq_false, not_false_eq_true, wrap_i64, ne_eq, Option.map_some, Bool.true_and, Bool.and_true, Bool.false_and, Bool.and_false])
      intro c hc
      refine ⟨[[.str (pieceS x.kind x.text)]], rfl, by simp, rfl, ?_⟩
      have e : strRows ((pieces l).take i) ++ [[.str (pieceS x.kind x.text)]] = strRows ((pieces l).take (i + 1)) := by rw [n3]; simp [strRows, ZTok.piece]
      refine appX_one [] ?_ ?_ (SubN.nil _) (fun g' _ => ?_)
      · rintro d rfl
        have h1 : ¬ b = d := fun e => hb (by simp [tokS, Store.keys, e])
        have h2 : ¬ c = d := fun e => hc (by simp [tokS, Store.keys, e])
        simp [tokS, Store.get, h1, h2]
      · have : (strRows ((pieces l).take i)).length ≤ l.length := by simp [strRows, pieces]; omega
        simp only [List.length_cons, List.length_nil]
        omega
      · rw [e, hw]
        refine ⟨(g', i + 1), ⟨by show i + 1 ≤ l.length; omega, n2 ha⟩, by show l.length - (i + 1) < l.length - i; omega, ?_⟩
        rw [Nat.mul_one]
        exact Weak.rfl' _ _
  · have h2 := of_decide_eq_false h2
    obtain rfl : i = l.length := by omega
    rw [List.take_length] at hs
    have e : (pieces l).take l.length = pieces l := List.take_of_length_le (by simp [pieces])
    rw [e]
    (try simp -dsimp -implicitDefEqProofs only [EV1, EV2, EV3, EV4, Nat.reduceEqDiff, ↓reduceIte, List.contains_cons, List.contains_nil, Nat.reduceBEq, Bool.or_false, Bool.false_or, Bool.or_true, Bool.true_or, Bool.not_true, Bool.not_false, reduceCtorEq, List.map_cons, List.map_nil, BEq.rfl, retQ_ret, retQ_normal, RX_nil, RX_tmp, RX_cell, one_nil, one_one, one_two, argEnv_nil, argEnv_cons, Nat.reduceAdd, List.length_cons, List.length_nil, List.cons_append, List.nil_append, List.drop_succ_cons, List.drop_zero, List.drop_nil, List.take_succ_cons, List.take_zero, List.headD_cons, Nat.reduceLeDiff, true_and, and_true, eq_self, Nat.le_refl, Nat.reduceLT, List.getD_cons_zero, List.getD_cons_succ, Int.reduceToNat, UInt8.reduceToNat, Nat.reduceMul, Nat.reduceAdd, Nat.reduceSub, Int.reduceLT, Int.reduceLE, Int.reduceAdd, Int.reduceSub, Int.reduceMul, Int.reduceEq, Int.reduceNe, Int.reduceNeg, Int.reduceTDiv, Int.reduceTMod, decide_true, decide_false, Nat.zero_add, Nat.mul_one, Int.cast_ofNat_Int, Int.toNat_zero, Bool.true_eq_false, Bool.false_eq_true, not_true_eq_false, not_false_eq_true, wrap_i64, ne_eq, Option.map_some, Bool.true_and, Bool.and_true, Bool.false_and, Bool.and_false])
    refine CALL_pure (f38 G g (pieces l) [32] (by simp [pieces]; omega) (by omega)) ?_
    (try simp -dsimp -implicitDefEqProofs only [EV1, EV2, EV3, EV4, Nat.reduceEqDiff, ↓reduceIte, List.contains_cons, List.contains_nil, Nat.reduceBEq, Bool.or_false, Bool.false_or, Bool.or_true, Bool.true_or, Bool.not_true, Bool.not_false, reduceCtorEq, List.map_cons, List.map_nil, BEq.rfl, retQ_ret, retQ_normal, RX_nil, RX_tmp, RX_cell, one_nil, one_one, one_two, argEnv_nil, argEnv_cons, Nat.reduceAdd, List.length_cons, List.length_nil, List.cons_append, List.nil_append, List.drop_succ_cons, List.drop_zero, List.drop_nil, List.take_succ_cons, List.take_zero, List.headD_cons, Nat.reduceLeDiff, true_and, and_true, eq_self, Nat.le_refl, Nat.reduceLT, List.getD_cons_zero, List.getD_cons_succ, Int.reduceToNat, UInt8.reduceToNat, Nat.reduceMul, Nat.reduceAdd, Nat.reduceSub, Int.reduceLT, Int.reduceLE, Int.reduceAdd, Int.reduceSub, Int.reduceMul, Int.reduceEq, Int.reduceNe, Int.reduceNeg, Int.reduceTDiv, Int.reduceTMod, decide_true, decide_false, Nat.zero_add, Nat.mul_one, Int.cast_ofNat_Int, Int.toNat_zero, Bool.true_eq_false, Bool.false_eq_true, not_true_eq_false, not_false_eq_true, wrap_i64, ne_eq, Option.map_some, Bool.true_and, Bool.and_true, Bool.false_and, Bool.and_false])
    exact hyes hs _
end
end Go.Av

/-
  THE LEXER, 28: TokenFormats.
-/
namespace Go.Av
open Go Go.RowKit Go.Proofs
set_option linter.unusedSimpArgs false
set_option linter.unusedVariables false

theorem lens_pieces (l : List ZTok) : Lib.lens (pieces l) ≤ 2 * sumT l + 2 * l.length := by
  induction l with
  | nil => simp [pieces, Lib.lens, sumT]
  | cons x l ih =>
    have h := piece_len x.kind x.text
    have e1 : Lib.lens (pieces (x :: l)) = x.piece.length + Lib.lens (pieces l) := by simp [pieces, Lib.lens]
    have e2 : sumT (x :: l) = x.text.length + sumT l := by simp [sumT]
    rw [e1, e2, List.length_cons]
    unfold ZTok.piece
    omega
theorem join_len (xs : List (List UInt8)) : (Lib.join xs [32]).length ≤ Lib.lens xs + xs.length := by
  cases xs with
  | nil => simp [Lib.join_nil]
  | cons x r =>
    rw [Lib.join_length]
    simp
    omega
theorem text_le (l : List ZTok) : ∀ t ∈ l, t.text.length ≤ sumT l := by
  induction l with
  | nil => intro t ht; cases ht
  | cons x l ih =>
    intro t ht
    have e2 : sumT (x :: l) = x.text.length + sumT l := by simp [sumT]
    rw [e2]
    rcases List.mem_cons.1 ht with rfl | ht
    · omega
    · have := ih t ht; omega

section
variable (G : Glob)

/-- TokenFormats answers true. -/
theorem f8 (l : List ZTok) (hl : l.length < 1000000000000000000) (ht : ∀ t ∈ l, t.text.length < 1000000000000000000) : Pure G Tryz.prog 8 [.lst 3 (rowsZ l)] (.bool true) := by
  refine Pure.w c8 fun R hR => ?_
  have hyes : ∀ σ, RET (.bool true) σ R := fun σ => RET.eq hR rfl
  clear hR
  have h22 := f22 G l hl ht
  unfold s8 r8
  (try simp -dsimp -implicitDefEqProofs only [EV1, EV2, EV3, EV4, Nat.reduceEqDiff, ↓reduceIte, List.contains_cons, List.contains_nil, Nat.reduceBEq, Bool.or_false, Bool.false_or, Bool.or_true, Bool.true_or, Bool.not_true, Bool.not_false, reduceCtorEq, List.map_cons, List.map_nil, BEq.rfl, retQ_ret, retQ_normal, RX_nil, RX_tmp, RX_cell, one_nil, one_one, one_two, argEnv_nil, argEnv_cons, Nat.reduceAdd, List.length_cons, List.length_nil, List.cons_append, List.nil_append, List.drop_succ_cons, List.drop_zero, List.drop_nil, List.take_succ_cons, List.take_zero, List.headD_cons, Nat.reduceLeDiff, true_and, and_true, eq_self, Nat.le_refl, Nat.reduceLT, List.getD_cons_zero, List.getD_cons_succ, Int.reduceToNat, UInt8.reduceToNat, Nat.reduceMul, Nat.reduceAdd, Nat.reduceSub, Int.reduceLT, Int.reduceLE, Int.reduceAdd, Int.reduceSub, Int.reduceMul, Int.reduceEq, Int.reduceNe, Int.reduceNeg, Int.reduceTDiv, Int.reduceTMod, decide_true, decide_false, Nat.zero_add, Nat.mul_one, Int.cast_ofNat_Int, Int.toNat_zero, Bool.true_eq_false, Bool.false_eq_true, not_true_eq_false, not_false_eq_true, wrap_i64, ne_eq, Option.map_some, Bool.true_and, Bool.and_true, Bool.false_and, Bool.and_false])
  refine CALL_pure h22 ?_
  cases hb : longB l with
  | true =>
    (try simp -dsimp -implicitDefEqProofs only [EV1, EV2, EV3, EV4, Nat.reduceEqDiff, ↓reduceIte, List.contains_cons, List.contains_nil, Nat.reduceBEq, Bool.or_false, Bool.false_or, Bool.or_true, Bool.true_or, Bool.not_true, Bool.not_false, reduceCtorEq, List.map_cons, List.map_nil, BEq.rfl, retQ_ret, retQ_normal, RX_nil, RX_tmp, RX_cell, one_nil, one_one, one_two, argEnv_nil, argEnv_cons, Nat.reduceAdd, List.length_cons, List.length_nil, List.cons_append, List.nil_append, List.drop_succ_cons, List.drop_zero, List.drop_nil, List.take_succ_cons, List.take_zero, List.headD_cons, Nat.reduceLeDiff, true_and, and_true, eq_self, Nat.le_refl, Nat.reduceLT, List.getD_cons_zero, List.getD_cons_succ, Int.reduceToNat, UInt8.reduceToNat, Nat.reduceMul, Nat.reduceAdd, Nat.reduceSub, Int.reduceLT, Int.reduceLE, Int.reduceAdd, Int.reduceSub, Int.reduceMul, Int.reduceEq, Int.reduceNe, Int.reduceNeg, Int.reduceTDiv, Int.reduceTMod, decide_true, decide_false, Nat.zero_add, Nat.mul_one, Int.cast_ofNat_Int, Int.toNat_zero, Bool.true_eq_false, Bool.false_eq_true, not_true_eq_false, not_false_eq_true, wrap_i64, ne_eq, Option.map_some, Bool.true_and, Bool.and_true, Bool.false_and, Bool.and_false])
    refine CALL_pure (f10 G) ?_
    (try simp -dsimp -implicitDefEqProofs only [EV1, EV2, EV3, EV4, Nat.reduceEqDiff, ↓reduceIte, List.contains_cons, List.contains_nil, Nat.reduceBEq, Bool.or_false, Bool.false_or, Bool.or_true, Bool.true_or, Bool.not_true, Bool.not_false, reduceCtorEq, List.map_cons, List.map_nil, BEq.rfl, retQ_ret, retQ_normal, RX_nil, RX_tmp, RX_cell, one_nil, one_one, one_two, argEnv_nil, argEnv_cons, Nat.reduceAdd, List.length_cons, List.length_nil, List.cons_append, List.nil_append, List.drop_succ_cons, List.drop_zero, List.drop_nil, List.take_succ_cons, List.take_zero, List.headD_cons, Nat.reduceLeDiff, true_and, and_true, eq_self, Nat.le_refl, Nat.reduceLT, List.getD_cons_zero, List.getD_cons_succ, Int.reduceToNat, UInt8.reduceToNat, Nat.reduceMul, Nat.reduceAdd, Nat.reduceSub, Int.reduceLT, Int.reduceLE, Int.reduceAdd, Int.reduceSub, Int.reduceMul, Int.reduceEq, Int.reduceNe, Int.reduceNeg, Int.reduceTDiv, Int.reduceTMod, decide_true, decide_false, Nat.zero_add, Nat.mul_one, Int.cast_ofNat_Int, Int.toNat_zero, Bool.true_eq_false, Bool.false_eq_true, not_true_eq_false, not_false_eq_true, wrap_i64, ne_eq, Option.map_some, Bool.true_and, Bool.and_true, Bool.false_and, Bool.and_false])
    exact hyes _
  | false =>
    unfold longB at hb
    rw [Bool.or_eq_false_iff] at hb
    have h1 := of_decide_eq_false hb.1
    have h2 := of_decide_eq_false hb.2
    have ht2 : ∀ t ∈ l, t.text.length < 400000 := fun t h => by have := text_le l t h; omega
    have hj : (Lib.join (pieces l) [32]).length < 1000000 := by
      have a := join_len (pieces l)
      have b := lens_pieces l
      have c : (pieces l).length = l.length := by simp [pieces]
      omega
    (try simp -dsimp -implicitDefEqProofs only [EV1, EV2, EV3, EV4, Nat.reduceEqDiff, ↓reduceIte, List.contains_cons, List.contains_nil, Nat.reduceBEq, Bool.or_false, Bool.false_or, Bool.or_true, Bool.true_or, Bool.not_true, Bool.not_false, reduceCtorEq, List.map_cons, List.map_nil, BEq.rfl, retQ_ret, retQ_normal, RX_nil, RX_tmp, RX_cell, one_nil, one_one, one_two, argEnv_nil, argEnv_cons, Nat.reduceAdd, List.length_cons, List.length_nil, List.cons_append, List.nil_append, List.drop_succ_cons, List.drop_zero, List.drop_nil, List.take_succ_cons, List.take_zero, List.headD_cons, Nat.reduceLeDiff, true_and, and_true, eq_self, Nat.le_refl, Nat.reduceLT, List.getD_cons_zero, List.getD_cons_succ, Int.reduceToNat, UInt8.reduceToNat, Nat.reduceMul, Nat.reduceAdd, Nat.reduceSub, Int.reduceLT, Int.reduceLE, Int.reduceAdd, Int.reduceSub, Int.reduceMul, Int.reduceEq, Int.reduceNe, Int.reduceNeg, Int.reduceTDiv, Int.reduceTMod, decide_true, decide_false, Nat.zero_add, Nat.mul_one, Int.cast_ofNat_Int, Int.toNat_zero, Bool.true_eq_false, Bool.false_eq_true, not_true_eq_false, not_false_eq_true, wrap_i64, ne_eq, Option.map_some, Bool.true_and, Bool.and_true, Bool.false_and, Bool.and_false])
    refine CALL_pure (f23 G l (by omega) ht2 hj) ?_
    (try simp -dsimp -implicitDefEqProofs only [EV1, EV2, EV3, EV4, Nat.reduceEqDiff, ↓reduceIte, List.contains_cons, List.contains_nil, Nat.reduceBEq, Bool.or_false, Bool.false_or, Bool.or_true, Bool.true_or, Bool.not_true, Bool.not_false, reduceCtorEq, List.map_cons, List.map_nil, BEq.rfl, retQ_ret, retQ_normal, RX_nil, RX_tmp, RX_cell, one_nil, one_one, one_two, argEnv_nil, argEnv_cons, Nat.reduceAdd, List.length_cons, List.length_nil, List.cons_append, List.nil_append, List.drop_succ_cons, List.drop_zero, List.drop_nil, List.take_succ_cons, List.take_zero, List.headD_cons, Nat.reduceLeDiff, true_and, and_true, eq_self, Nat.le_refl, Nat.reduceLT, List.getD_cons_zero, List.getD_cons_succ, Int.reduceToNat, UInt8.reduceToNat, Nat.reduceMul, Nat.reduceAdd, Nat.reduceSub, Int.reduceLT, Int.reduceLE, Int.reduceAdd, Int.reduceSub, Int.reduceMul, Int.reduceEq, Int.reduceNe, Int.reduceNeg, Int.reduceTDiv, Int.reduceTMod, decide_true, decide_false, Nat.zero_add, Nat.mul_one, Int.cast_ofNat_Int, Int.toNat_zero, Bool.true_eq_false, Bool.false_eq_true, not_true_eq_false, not_false_eq_true, wrap_i64, ne_eq, Option.map_some, Bool.true_and, Bool.and_true, Bool.false_and, Bool.and_false])
    refine CALL_pure (f24 G l (by omega) ht2 hj) ?_
    (try simp -dsimp -implicitDefEqProofs only [EV1, EV2, EV3, EV4, Nat.reduceEqDiff, ↓reduceIte, List.contains_cons, List.contains_nil, Nat.reduceBEq, Bool.or_false, Bool.false_or, Bool.or_true, Bool.true_or, Bool.not_true, Bool.not_false, reduceCtorEq, List.map_cons, List.map_nil, BEq.rfl, retQ_ret, retQ_normal, RX_nil, RX_tmp, RX_cell, one_nil, one_one, one_two, argEnv_nil, argEnv_cons, Nat.reduceAdd, List.length_cons, List.length_nil, List.cons_append, List.nil_append, List.drop_succ_cons, List.drop_zero, List.drop_nil, List.take_succ_cons, List.take_zero, List.headD_cons, Nat.reduceLeDiff, true_and, and_true, eq_self, Nat.le_refl, Nat.reduceLT, List.getD_cons_zero, List.getD_cons_succ, Int.reduceToNat, UInt8.reduceToNat, Nat.reduceMul, Nat.reduceAdd, Nat.reduceSub, Int.reduceLT, Int.reduceLE, Int.reduceAdd, Int.reduceSub, Int.reduceMul, Int.reduceEq, Int.reduceNe, Int.reduceNeg, Int.reduceTDiv, Int.reduceTMod, decide_true, decide_false, Nat.zero_add, Nat.mul_one, Int.cast_ofNat_Int, Int.toNat_zero, Bool.true_eq_false, Bool.false_eq_true, not_true_eq_false, not_false_eq_true, wrap_i64, ne_eq, Option.map_some, Bool.true_and, Bool.and_true, Bool.false_and, Bool.and_false])
    refine CALL_pure (f10 G) ?_
    (try simp -dsimp -implicitDefEqProofs only [EV1, EV2, EV3, EV4, Nat.reduceEqDiff, ↓reduceIte, List.contains_cons, List.contains_nil, Nat.reduceBEq, Bool.or_false, Bool.false_or, Bool.or_true, Bool.true_or, Bool.not_true, Bool.not_false, reduceCtorEq, List.map_cons, List.map_nil, BEq.rfl, retQ_ret, retQ_normal, RX_nil, RX_tmp, RX_cell, one_nil, one_one, one_two, argEnv_nil, argEnv_cons, Nat.reduceAdd, List.length_cons, List.length_nil, List.cons_append, List.nil_append, List.drop_succ_cons, List.drop_zero, List.drop_nil, List.take_succ_cons, List.take_zero, List.headD_cons, Nat.reduceLeDiff, true_and, and_true, eq_self, Nat.le_refl, Nat.reduceLT, List.getD_cons_zero, List.getD_cons_succ, Int.reduceToNat, UInt8.reduceToNat, Nat.reduceMul, Nat.reduceAdd, Nat.reduceSub, Int.reduceLT, Int.reduceLE, Int.reduceAdd, Int.reduceSub, Int.reduceMul, Int.reduceEq, Int.reduceNe, Int.reduceNeg, Int.reduceTDiv, Int.reduceTMod, decide_true, decide_false, Nat.zero_add, Nat.mul_one, Int.cast_ofNat_Int, Int.toNat_zero, Bool.true_eq_false, Bool.false_eq_true, not_true_eq_false, not_false_eq_true, wrap_i64, ne_eq, Option.map_some, Bool.true_and, Bool.and_true, Bool.false_and, Bool.and_false])
    exact hyes _
end
end Go.Av
