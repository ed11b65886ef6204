/-
  THE LEXER, 7: the reference's Scan.
-/
import Derived.Test.YtmghejoigggooaaGreatDoorXTok6
namespace Go.Av
open Go Go.RowKit Go.Proofs
set_option linter.unusedSimpArgs false

theorem Weak.store {G : Glob} {env : Env} {σ σ' : Store} (h : SubN σ' σ) : Weak G env σ env σ' :=
  fun _ w _ hS hE => ⟨hS.subN h, Ev.of_sub h.1 w, fun j => Rep.ev (Ev.of_sub h.1 w) _ _ (hE j)⟩

theorem rowsT_app (l : List Tok) (x : Tok) : rowsT (l ++ [x]) = rowsT l ++ [x.row] := by simp [rowsT]

theorem build_app {l : List Tok} {x : Tok} {g : Option Nat} {K : AV → Store → Prop} {cs : List AV} (hl : l.length < 1000000) (hcs : cs = x.row)
    (hk : ∀ g' σ', SubN (tokS g' 33 ((rowsT (l ++ [x])).length * 3)) σ' → K (.own g' 33 3 (rowsT (l ++ [x]))) σ') (b : Nat) (hb : ¬ b ∈ (tokS g 33 ((rowsT l).length * 3)).keys) :
    ∃ rows : List (List AV), rows.length = 1 ∧ (∀ r ∈ rows, r.length = 3) ∧ rows.flatten = cs ∧ appX 33 3 32 ((b, AObj.tok 33 (1 * 3)) :: tokS g 33 ((rowsT l).length * 3)) g (rowsT l) rows K := by
  subst hcs
  refine ⟨[x.row], rfl, by simp [Tok.row], by simp, ?_, by simp [rowsT]; omega, ?_⟩
  · rintro c rfl
    have : ¬ b = c := fun e => hb (by simp [tokS, Store.keys, e])
    simp [Store.get, this, tokS]
  · intro g' _ hg'
    rw [← rowsT_app]
    refine ⟨_, SubN.refl _, hk _ _ ⟨fun p hp => List.mem_append.2 (.inl hp), fun hn => ?_⟩⟩
    rw [keys_append] at hn
    exact (List.nodup_append.1 hn).1

theorem build_app2 {l : List Tok} {x : Tok} {g : Option Nat} {K : AV → Store → Prop} {cs : List AV} {c : Nat} {y : AObj} (hl : l.length < 1000000) (hcs : cs = x.row)
    (hk : ∀ g' σ', SubN (tokS g' 33 ((rowsT (l ++ [x])).length * 3)) σ' → K (.own g' 33 3 (rowsT (l ++ [x]))) σ') (hc : ¬ c ∈ (tokS g 33 ((rowsT l).length * 3)).keys)
    (b : Nat) (hb : ¬ b ∈ Store.keys ((c, y) :: tokS g 33 ((rowsT l).length * 3))) :
    ∃ rows : List (List AV), rows.length = 1 ∧ (∀ r ∈ rows, r.length = 3) ∧ rows.flatten = cs ∧ appX 33 3 32 ((b, AObj.tok 33 (1 * 3)) :: (c, y) :: tokS g 33 ((rowsT l).length * 3)) g (rowsT l) rows K := by
  subst hcs
  refine ⟨[x.row], rfl, by simp [Tok.row], by simp, ?_, by simp [rowsT]; omega, ?_⟩
  · rintro d rfl
    have h1 : ¬ b = d := fun e => hb (by simp [tokS, Store.keys, e])
    have h2 : ¬ c = d := fun e => hc (by simp [tokS, Store.keys, e])
    simp [Store.get, h1, h2, tokS]
  · intro g' _ hg'
    rw [← rowsT_app]
    refine ⟨_, SubN.refl _, hk _ _ ⟨fun p hp => List.mem_append.2 (.inl hp), fun hn => ?_⟩⟩
    rw [keys_append] at hn
    exact (List.nodup_append.1 hn).1

theorem isSign_no {c : UInt8} (h : isSign c = true) : isSmall c = false ∧ isDigit c = false := by
  simp only [isSign, Bool.or_eq_true, beq_iff_eq] at h
  unfold isSmall isDigit
  rcases h with ((((h | h) | h) | h) | h) | h <;> rw [h] <;> exact ⟨rfl, rfl⟩
theorem isSmall_34 {c : UInt8} (h : c.toNat = 34) : isSmall c = false := by unfold isSmall; rw [h]; rfl
theorem isDigit_34 {c : UInt8} (h : c.toNat = 34) : isDigit c = false := by unfold isDigit; rw [h]; rfl

section
variable (G : Glob)

set_option maxHeartbeats 1000000 in
theorem f12 (s : List UInt8) (hs : s.length < 1000000) : Pure G Tryz.prog 12 [.str s] ((scanAt s 0).av .i64 s) := by
  refine Pure.w c12 fun R hR => ?_
  unfold s12
  simp -dsimp -implicitDefEqProofs only [EV1, EV2, EV3, EV4, Nat.reduceEqDiff, ↓reduceIte, List.contains_cons, List.contains_nil, Nat.reduceBEq, Bool.or_false, Bool.false_or, Bool.or_true, Bool.true_or, Bool.not_true, Bool.not_false, reduceCtorEq, List.map_cons, List.map_nil, BEq.rfl, retQ_ret, retQ_normal, RX_nil, RX_tmp, RX_cell, one_nil, one_one, one_two, argEnv_nil, argEnv_cons, Nat.reduceAdd, List.length_cons, List.length_nil, List.cons_append, List.nil_append, List.drop_succ_cons, List.drop_zero, List.drop_nil, List.take_succ_cons, List.take_zero, List.headD_cons, Nat.reduceLeDiff, true_and, and_true, eq_self, Nat.le_refl, Nat.reduceLT, List.getD_cons_zero, List.getD_cons_succ]
  intro b0 hb0
  refine ⟨[], rfl, by simp, rfl, ?_⟩
  (try simp -dsimp -implicitDefEqProofs only [EV1, EV2, EV3, EV4, Nat.reduceEqDiff, ↓reduceIte, List.contains_cons, List.contains_nil, Nat.reduceBEq, Bool.or_false, Bool.false_or, Bool.or_true, Bool.true_or, Bool.not_true, Bool.not_false, reduceCtorEq, List.map_cons, List.map_nil, BEq.rfl, retQ_ret, retQ_normal, RX_nil, RX_tmp, RX_cell, one_nil, one_one, one_two, argEnv_nil, argEnv_cons, Nat.reduceAdd, List.length_cons, List.length_nil, List.cons_append, List.nil_append, List.drop_succ_cons, List.drop_zero, List.drop_nil, List.take_succ_cons, List.take_zero, List.headD_cons, Nat.reduceLeDiff, true_and, and_true, eq_self, Nat.le_refl, Nat.reduceLT, List.getD_cons_zero, List.getD_cons_succ])
  refine W_loop (ι := Option Nat × List Tok × Nat) (fun p => p.2.2 ≤ s.length ∧ p.2.1.length ≤ p.2.2 ∧ scanAt s 0 = (scanAt s p.2.2).pre p.2.1) (fun p => s.length - p.2.2)
    (fun p => [(0, .str s), (5, .own p.1 33 3 (rowsT p.2.1)), (6, .int .i64 p.2.2)]) (fun p => tokS p.1 33 ((rowsT p.2.1).length * 3)) (some b0, [], 0) ⟨Nat.zero_le _, by simp, by rw [Lx.pre_nil]⟩ (Weak.rfl' _ _) ?_
  rintro ⟨g, l, i⟩ ⟨hi, hl, he⟩
  simp only at hi hl he
  (try simp -dsimp -implicitDefEqProofs only [EV1, EV2, EV3, EV4, Nat.reduceEqDiff, ↓reduceIte, List.contains_cons, List.contains_nil, Nat.reduceBEq, Bool.or_false, Bool.false_or, Bool.or_true, Bool.true_or, Bool.not_true, Bool.not_false, reduceCtorEq, List.map_cons, List.map_nil, BEq.rfl, retQ_ret, retQ_normal, RX_nil, RX_tmp, RX_cell, one_nil, one_one, one_two, argEnv_nil, argEnv_cons, Nat.reduceAdd, List.length_cons, List.length_nil, List.cons_append, List.nil_append, List.drop_succ_cons, List.drop_zero, List.drop_nil, List.take_succ_cons, List.take_zero, List.headD_cons, Nat.reduceLeDiff, true_and, and_true, eq_self, Nat.le_refl, Nat.reduceLT, List.getD_cons_zero, List.getD_cons_succ])
  refine split_case (fun h => ?_) (fun h => ?_)
  · have h := of_decide_eq_true h
    have hw : IntKind.i64.wrap ((i : Int) + 1) = (i : Int) + 1 := wrap_i64 (by omega) (by omega)
    (try simp -dsimp -implicitDefEqProofs only [EV1, EV2, EV3, EV4, Nat.reduceEqDiff, ↓reduceIte, List.contains_cons, List.contains_nil, Nat.reduceBEq, Bool.or_false, Bool.false_or, Bool.or_true, Bool.true_or, Bool.not_true, Bool.not_false, reduceCtorEq, List.map_cons, List.map_nil, BEq.rfl, retQ_ret, retQ_normal, RX_nil, RX_tmp, RX_cell, one_nil, one_one, one_two, argEnv_nil, argEnv_cons, Nat.reduceAdd, List.length_cons, List.length_nil, List.cons_append, List.nil_append, List.drop_succ_cons, List.drop_zero, List.drop_nil, List.take_succ_cons, List.take_zero, List.headD_cons, Nat.reduceLeDiff, true_and, and_true, eq_self, Nat.le_refl, Nat.reduceLT, List.getD_cons_zero, List.getD_cons_succ])
    refine ⟨by omega, by omega, ?_⟩
    (try simp -dsimp -implicitDefEqProofs only [EV1, EV2, EV3, EV4, Nat.reduceEqDiff, ↓reduceIte, List.contains_cons, List.contains_nil, Nat.reduceBEq, Bool.or_false, Bool.false_or, Bool.or_true, Bool.true_or, Bool.not_true, Bool.not_false, reduceCtorEq, List.map_cons, List.map_nil, BEq.rfl, retQ_ret, retQ_normal, RX_nil, RX_tmp, RX_cell, one_nil, one_one, one_two, argEnv_nil, argEnv_cons, Nat.reduceAdd, List.length_cons, List.length_nil, List.cons_append, List.nil_append, List.drop_succ_cons, List.drop_zero, List.drop_nil, List.take_succ_cons, List.take_zero, List.headD_cons, Nat.reduceLeDiff, true_and, and_true, eq_self, Nat.le_refl, Nat.reduceLT, List.getD_cons_zero, List.getD_cons_succ])
    simp only [Int.toNat_natCast]
    have blank : isBlank (s.getD i 0) = true → scanAt s 0 = (scanAt s (i + 1)).pre l := fun hb => by rw [he, scan_blank s i (by omega) hb]
    refine gd_case (fun h1 => ?_) (fun h1 => ?_)
    · have h1 := of_decide_eq_false h1
      (try simp -dsimp -implicitDefEqProofs only [EV1, EV2, EV3, EV4, Nat.reduceEqDiff, ↓reduceIte, List.contains_cons, List.contains_nil, Nat.reduceBEq, Bool.or_false, Bool.false_or, Bool.or_true, Bool.true_or, Bool.not_true, Bool.not_false, reduceCtorEq, List.map_cons, List.map_nil, BEq.rfl, retQ_ret, retQ_normal, RX_nil, RX_tmp, RX_cell, one_nil, one_one, one_two, argEnv_nil, argEnv_cons, Nat.reduceAdd, List.length_cons, List.length_nil, List.cons_append, List.nil_append, List.drop_succ_cons, List.drop_zero, List.drop_nil, List.take_succ_cons, List.take_zero, List.headD_cons, Nat.reduceLeDiff, true_and, and_true, eq_self, Nat.le_refl, Nat.reduceLT, List.getD_cons_zero, List.getD_cons_succ])
      refine split_case (fun h2 => ?_) (fun h2 => ?_)
      · have h2 := of_decide_eq_true h2
        (try simp -dsimp -implicitDefEqProofs only [EV1, EV2, EV3, EV4, Nat.reduceEqDiff, ↓reduceIte, List.contains_cons, List.contains_nil, Nat.reduceBEq, Bool.or_false, Bool.false_or, Bool.or_true, Bool.true_or, Bool.not_true, Bool.not_false, reduceCtorEq, List.map_cons, List.map_nil, BEq.rfl, retQ_ret, retQ_normal, RX_nil, RX_tmp, RX_cell, one_nil, one_one, one_two, argEnv_nil, argEnv_cons, Nat.reduceAdd, List.length_cons, List.length_nil, List.cons_append, List.nil_append, List.drop_succ_cons, List.drop_zero, List.drop_nil, List.take_succ_cons, List.take_zero, List.headD_cons, Nat.reduceLeDiff, true_and, and_true, eq_self, Nat.le_refl, Nat.reduceLT, List.getD_cons_zero, List.getD_cons_succ, hw])
        exact ⟨(g, l, i + 1), ⟨by simp only; omega, by simp only; omega, blank (by simp [isBlank] at *; omega)⟩, by simp only; omega, Weak.rfl' _ _⟩
      · have h2 := of_decide_eq_false h2
        have hb : isBlank (s.getD i 0) = false := by
          unfold isBlank
          rw [beq_eq_false_iff_ne.2 (show (s.getD i 0).toNat ≠ 32 by omega), beq_eq_false_iff_ne.2 (show (s.getD i 0).toNat ≠ 10 by omega)]
          rfl
        have bad : ∀ n, nextS s i = .bad n → ∀ σ, RET (.tup [.nil, .int .i64 n, .int .i64 2]) σ R := fun n hn σ => RET.eq hR (by rw [he, scan_bad s i n (by omega) hb hn]; rfl)
        have good : ∀ k a t e, nextS s i = .good k a t e → i < e ∧ e ≤ s.length ∧ scanAt s 0 = (scanAt s e).pre (l ++ [⟨k, i, t⟩]) := fun k a t e hn => by
          obtain ⟨g1, g2, _⟩ := nextS_end (by omega) hn
          exact ⟨g1, g2, by rw [he, scan_good s i (by omega) hb hn, Lx.pre_pre]⟩
        (try simp -dsimp -implicitDefEqProofs only [EV1, EV2, EV3, EV4, Nat.reduceEqDiff, ↓reduceIte, List.contains_cons, List.contains_nil, Nat.reduceBEq, Bool.or_false, Bool.false_or, Bool.or_true, Bool.true_or, Bool.not_true, Bool.not_false, reduceCtorEq, List.map_cons, List.map_nil, BEq.rfl, retQ_ret, retQ_normal, RX_nil, RX_tmp, RX_cell, one_nil, one_one, one_two, argEnv_nil, argEnv_cons, Nat.reduceAdd, List.length_cons, List.length_nil, List.cons_append, List.nil_append, List.drop_succ_cons, List.drop_zero, List.drop_nil, List.take_succ_cons, List.take_zero, List.headD_cons, Nat.reduceLeDiff, true_and, and_true, eq_self, Nat.le_refl, Nat.reduceLT, List.getD_cons_zero, List.getD_cons_succ])
        refine split_case (fun h3 => ?_) (fun h3 => ?_)
        · have h3 := of_decide_eq_true h3
          have hns : nextS s i = match unq (s.drop (i + 1)) with
            | none => .bad i
            | some p => .good 1 i p.1 (p.2 + i + 1) := by
            unfold nextS
            have h3 : (s.getD i 0).toNat = 34 := by omega
            rw [isSmall_34 h3, isDigit_34 h3, if_pos h3]
            rfl
          (try simp -dsimp -implicitDefEqProofs only [EV1, EV2, EV3, EV4, Nat.reduceEqDiff, ↓reduceIte, List.contains_cons, List.contains_nil, Nat.reduceBEq, Bool.or_false, Bool.false_or, Bool.or_true, Bool.true_or, Bool.not_true, Bool.not_false, reduceCtorEq, List.map_cons, List.map_nil, BEq.rfl, retQ_ret, retQ_normal, RX_nil, RX_tmp, RX_cell, one_nil, one_one, one_two, argEnv_nil, argEnv_cons, Nat.reduceAdd, List.length_cons, List.length_nil, List.cons_append, List.nil_append, List.drop_succ_cons, List.drop_zero, List.drop_nil, List.take_succ_cons, List.take_zero, List.headD_cons, Nat.reduceLeDiff, true_and, and_true, eq_self, Nat.le_refl, Nat.reduceLT, List.getD_cons_zero, List.getD_cons_succ])
          refine CALL_pure (f29 G s i hs (by omega)) ?_
          unfold refQuoted
          cases hu : unq (s.drop (i + 1)) with
          | none =>
            rw [hu] at hns
            have hd : decide ((-1 : Int) < 0) = true := rfl
            (try simp -dsimp -implicitDefEqProofs only [EV1, EV2, EV3, EV4, Nat.reduceEqDiff, ↓reduceIte, List.contains_cons, List.contains_nil, Nat.reduceBEq, Bool.or_false, Bool.false_or, Bool.or_true, Bool.true_or, Bool.not_true, Bool.not_false, reduceCtorEq, List.map_cons, List.map_nil, BEq.rfl, retQ_ret, retQ_normal, RX_nil, RX_tmp, RX_cell, one_nil, one_one, one_two, argEnv_nil, argEnv_cons, Nat.reduceAdd, List.length_cons, List.length_nil, List.cons_append, List.nil_append, List.drop_succ_cons, List.drop_zero, List.drop_nil, List.take_succ_cons, List.take_zero, List.headD_cons, Nat.reduceLeDiff, true_and, and_true, eq_self, Nat.le_refl, Nat.reduceLT, List.getD_cons_zero, List.getD_cons_succ, r12, hd])
            exact bad i hns _
          | some p =>
            rw [hu] at hns
            obtain ⟨g1, g2, g3⟩ := good _ _ _ _ hns
            have hd : decide (((p.2 + i + 1 : Nat) : Int) < 0) = false := decide_eq_false (by omega)
            (try simp -dsimp -implicitDefEqProofs only [EV1, EV2, EV3, EV4, Nat.reduceEqDiff, ↓reduceIte, List.contains_cons, List.contains_nil, Nat.reduceBEq, Bool.or_false, Bool.false_or, Bool.or_true, Bool.true_or, Bool.not_true, Bool.not_false, reduceCtorEq, List.map_cons, List.map_nil, BEq.rfl, retQ_ret, retQ_normal, RX_nil, RX_tmp, RX_cell, one_nil, one_one, one_two, argEnv_nil, argEnv_cons, Nat.reduceAdd, List.length_cons, List.length_nil, List.cons_append, List.nil_append, List.drop_succ_cons, List.drop_zero, List.drop_nil, List.take_succ_cons, List.take_zero, List.headD_cons, Nat.reduceLeDiff, true_and, and_true, eq_self, Nat.le_refl, Nat.reduceLT, List.getD_cons_zero, List.getD_cons_succ, hd])
            refine build_app (x := ⟨1, i, p.1⟩) (by omega) (by simp [splice, Tok.row]) (fun g' σ' hsub => ?_)
            exact ⟨(g', l ++ [⟨1, i, p.1⟩], p.2 + i + 1), ⟨g2, by simp; omega, g3⟩, by simp only; omega, Weak.store hsub⟩
        · have h3 := of_decide_eq_false h3
          (try simp -dsimp -implicitDefEqProofs only [EV1, EV2, EV3, EV4, Nat.reduceEqDiff, ↓reduceIte, List.contains_cons, List.contains_nil, Nat.reduceBEq, Bool.or_false, Bool.false_or, Bool.or_true, Bool.true_or, Bool.not_true, Bool.not_false, reduceCtorEq, List.map_cons, List.map_nil, BEq.rfl, retQ_ret, retQ_normal, RX_nil, RX_tmp, RX_cell, one_nil, one_one, one_two, argEnv_nil, argEnv_cons, Nat.reduceAdd, List.length_cons, List.length_nil, List.cons_append, List.nil_append, List.drop_succ_cons, List.drop_zero, List.drop_nil, List.take_succ_cons, List.take_zero, List.headD_cons, Nat.reduceLeDiff, true_and, and_true, eq_self, Nat.le_refl, Nat.reduceLT, List.getD_cons_zero, List.getD_cons_succ])
          refine CALL_pure (f30 G _) ?_
          (try simp -dsimp -implicitDefEqProofs only [EV1, EV2, EV3, EV4, Nat.reduceEqDiff, ↓reduceIte, List.contains_cons, List.contains_nil, Nat.reduceBEq, Bool.or_false, Bool.false_or, Bool.or_true, Bool.true_or, Bool.not_true, Bool.not_false, reduceCtorEq, List.map_cons, List.map_nil, BEq.rfl, retQ_ret, retQ_normal, RX_nil, RX_tmp, RX_cell, one_nil, one_one, one_two, argEnv_nil, argEnv_cons, Nat.reduceAdd, List.length_cons, List.length_nil, List.cons_append, List.nil_append, List.drop_succ_cons, List.drop_zero, List.drop_nil, List.take_succ_cons, List.take_zero, List.headD_cons, Nat.reduceLeDiff, true_and, and_true, eq_self, Nat.le_refl, Nat.reduceLT, List.getD_cons_zero, List.getD_cons_succ])
          refine split_case (fun h4 => ?_) (fun h4 => ?_)
          · have hns : nextS s i = .good 4 i [s.getD i 0] (i + 1) := by
              unfold nextS
              rw [(isSign_no h4).1, (isSign_no h4).2, if_neg (show ¬ (s.getD i 0).toNat = 34 by omega), if_pos h4]
              rfl
            obtain ⟨g1, g2, g3⟩ := good _ _ _ _ hns
            (try simp -dsimp -implicitDefEqProofs only [EV1, EV2, EV3, EV4, Nat.reduceEqDiff, ↓reduceIte, List.contains_cons, List.contains_nil, Nat.reduceBEq, Bool.or_false, Bool.false_or, Bool.or_true, Bool.true_or, Bool.not_true, Bool.not_false, reduceCtorEq, List.map_cons, List.map_nil, BEq.rfl, retQ_ret, retQ_normal, RX_nil, RX_tmp, RX_cell, one_nil, one_one, one_two, argEnv_nil, argEnv_cons, Nat.reduceAdd, List.length_cons, List.length_nil, List.cons_append, List.nil_append, List.drop_succ_cons, List.drop_zero, List.drop_nil, List.take_succ_cons, List.take_zero, List.headD_cons, Nat.reduceLeDiff, true_and, and_true, eq_self, Nat.le_refl, Nat.reduceLT, List.getD_cons_zero, List.getD_cons_succ, hw])
            refine ⟨by omega, by omega, by omega, ?_⟩
            (try simp -dsimp -implicitDefEqProofs only [EV1, EV2, EV3, EV4, Nat.reduceEqDiff, ↓reduceIte, List.contains_cons, List.contains_nil, Nat.reduceBEq, Bool.or_false, Bool.false_or, Bool.or_true, Bool.true_or, Bool.not_true, Bool.not_false, reduceCtorEq, List.map_cons, List.map_nil, BEq.rfl, retQ_ret, retQ_normal, RX_nil, RX_tmp, RX_cell, one_nil, one_one, one_two, argEnv_nil, argEnv_cons, Nat.reduceAdd, List.length_cons, List.length_nil, List.cons_append, List.nil_append, List.drop_succ_cons, List.drop_zero, List.drop_nil, List.take_succ_cons, List.take_zero, List.headD_cons, Nat.reduceLeDiff, true_and, and_true, eq_self, Nat.le_refl, Nat.reduceLT, List.getD_cons_zero, List.getD_cons_succ, hw])
            refine build_app (x := ⟨4, i, [s.getD i 0]⟩) (by omega) ?_ (fun g' σ' hsub => ?_)
            · have e1 : ((i : Int)).toNat = i := by omega
              have e2 : ((i : Int) + 1).toNat = i + 1 := by omega
              rw [e1, e2, one_byte s i (by omega)]
              simp [splice, Tok.row]
            · (try simp -dsimp -implicitDefEqProofs only [EV1, EV2, EV3, EV4, Nat.reduceEqDiff, ↓reduceIte, List.contains_cons, List.contains_nil, Nat.reduceBEq, Bool.or_false, Bool.false_or, Bool.or_true, Bool.true_or, Bool.not_true, Bool.not_false, reduceCtorEq, List.map_cons, List.map_nil, BEq.rfl, retQ_ret, retQ_normal, RX_nil, RX_tmp, RX_cell, one_nil, one_one, one_two, argEnv_nil, argEnv_cons, Nat.reduceAdd, List.length_cons, List.length_nil, List.cons_append, List.nil_append, List.drop_succ_cons, List.drop_zero, List.drop_nil, List.take_succ_cons, List.take_zero, List.headD_cons, Nat.reduceLeDiff, true_and, and_true, eq_self, Nat.le_refl, Nat.reduceLT, List.getD_cons_zero, List.getD_cons_succ, hw])
              exact ⟨(g', l ++ [⟨4, i, [s.getD i 0]⟩], i + 1), ⟨g2, by simp; omega, g3⟩, by simp only; omega, Weak.store hsub⟩
          · (try simp -dsimp -implicitDefEqProofs only [EV1, EV2, EV3, EV4, Nat.reduceEqDiff, ↓reduceIte, List.contains_cons, List.contains_nil, Nat.reduceBEq, Bool.or_false, Bool.false_or, Bool.or_true, Bool.true_or, Bool.not_true, Bool.not_false, reduceCtorEq, List.map_cons, List.map_nil, BEq.rfl, retQ_ret, retQ_normal, RX_nil, RX_tmp, RX_cell, one_nil, one_one, one_two, argEnv_nil, argEnv_cons, Nat.reduceAdd, List.length_cons, List.length_nil, List.cons_append, List.nil_append, List.drop_succ_cons, List.drop_zero, List.drop_nil, List.take_succ_cons, List.take_zero, List.headD_cons, Nat.reduceLeDiff, true_and, and_true, eq_self, Nat.le_refl, Nat.reduceLT, List.getD_cons_zero, List.getD_cons_succ])
            refine CALL_pure (f31 G _) ?_
            (try simp -dsimp -implicitDefEqProofs only [EV1, EV2, EV3, EV4, Nat.reduceEqDiff, ↓reduceIte, List.contains_cons, List.contains_nil, Nat.reduceBEq, Bool.or_false, Bool.false_or, Bool.or_true, Bool.true_or, Bool.not_true, Bool.not_false, reduceCtorEq, List.map_cons, List.map_nil, BEq.rfl, retQ_ret, retQ_normal, RX_nil, RX_tmp, RX_cell, one_nil, one_one, one_two, argEnv_nil, argEnv_cons, Nat.reduceAdd, List.length_cons, List.length_nil, List.cons_append, List.nil_append, List.drop_succ_cons, List.drop_zero, List.drop_nil, List.take_succ_cons, List.take_zero, List.headD_cons, Nat.reduceLeDiff, true_and, and_true, eq_self, Nat.le_refl, Nat.reduceLT, List.getD_cons_zero, List.getD_cons_succ])
            refine gd_case (fun h5 => ?_) (fun h5 => ?_)
            · have h5 : isSmall (s.getD i 0) = false := by simpa using h5
              (try simp -dsimp -implicitDefEqProofs only [EV1, EV2, EV3, EV4, Nat.reduceEqDiff, ↓reduceIte, List.contains_cons, List.contains_nil, Nat.reduceBEq, Bool.or_false, Bool.false_or, Bool.or_true, Bool.true_or, Bool.not_true, Bool.not_false, reduceCtorEq, List.map_cons, List.map_nil, BEq.rfl, retQ_ret, retQ_normal, RX_nil, RX_tmp, RX_cell, one_nil, one_one, one_two, argEnv_nil, argEnv_cons, Nat.reduceAdd, List.length_cons, List.length_nil, List.cons_append, List.nil_append, List.drop_succ_cons, List.drop_zero, List.drop_nil, List.take_succ_cons, List.take_zero, List.headD_cons, Nat.reduceLeDiff, true_and, and_true, eq_self, Nat.le_refl, Nat.reduceLT, List.getD_cons_zero, List.getD_cons_succ])
              refine CALL_pure (f32 G _) ?_
              (try simp -dsimp -implicitDefEqProofs only [EV1, EV2, EV3, EV4, Nat.reduceEqDiff, ↓reduceIte, List.contains_cons, List.contains_nil, Nat.reduceBEq, Bool.or_false, Bool.false_or, Bool.or_true, Bool.true_or, Bool.not_true, Bool.not_false, reduceCtorEq, List.map_cons, List.map_nil, BEq.rfl, retQ_ret, retQ_normal, RX_nil, RX_tmp, RX_cell, one_nil, one_one, one_two, argEnv_nil, argEnv_cons, Nat.reduceAdd, List.length_cons, List.length_nil, List.cons_append, List.nil_append, List.drop_succ_cons, List.drop_zero, List.drop_nil, List.take_succ_cons, List.take_zero, List.headD_cons, Nat.reduceLeDiff, true_and, and_true, eq_self, Nat.le_refl, Nat.reduceLT, List.getD_cons_zero, List.getD_cons_succ])
              refine split_case (fun h6 => ?_) (fun h6 => ?_)
              · have h6 : isDigit (s.getD i 0) = false := by simpa using h6
                have hns : nextS s i = .bad i := by
                  unfold nextS
                  rw [h5, h6, if_neg (show ¬ (s.getD i 0).toNat = 34 by omega), h4]
                  rfl
                (try simp -dsimp -implicitDefEqProofs only [EV1, EV2, EV3, EV4, Nat.reduceEqDiff, ↓reduceIte, List.contains_cons, List.contains_nil, Nat.reduceBEq, Bool.or_false, Bool.false_or, Bool.or_true, Bool.true_or, Bool.not_true, Bool.not_false, reduceCtorEq, List.map_cons, List.map_nil, BEq.rfl, retQ_ret, retQ_normal, RX_nil, RX_tmp, RX_cell, one_nil, one_one, one_two, argEnv_nil, argEnv_cons, Nat.reduceAdd, List.length_cons, List.length_nil, List.cons_append, List.nil_append, List.drop_succ_cons, List.drop_zero, List.drop_nil, List.take_succ_cons, List.take_zero, List.headD_cons, Nat.reduceLeDiff, true_and, and_true, eq_self, Nat.le_refl, Nat.reduceLT, List.getD_cons_zero, List.getD_cons_succ, r12])
                exact bad i hns _
              · have h6 : isDigit (s.getD i 0) = true := by simpa using h6
                have hns : nextS s i = numS s i := by
                  unfold nextS
                  rw [h5, h6]
                  rfl
                (try simp -dsimp -implicitDefEqProofs only [EV1, EV2, EV3, EV4, Nat.reduceEqDiff, ↓reduceIte, List.contains_cons, List.contains_nil, Nat.reduceBEq, Bool.or_false, Bool.false_or, Bool.or_true, Bool.true_or, Bool.not_true, Bool.not_false, reduceCtorEq, List.map_cons, List.map_nil, BEq.rfl, retQ_ret, retQ_normal, RX_nil, RX_tmp, RX_cell, one_nil, one_one, one_two, argEnv_nil, argEnv_cons, Nat.reduceAdd, List.length_cons, List.length_nil, List.cons_append, List.nil_append, List.drop_succ_cons, List.drop_zero, List.drop_nil, List.take_succ_cons, List.take_zero, List.headD_cons, Nat.reduceLeDiff, true_and, and_true, eq_self, Nat.le_refl, Nat.reduceLT, List.getD_cons_zero, List.getD_cons_succ])
                refine CALL_spec [] (tokS g 33 ((rowsT l).length * 3)) (f33n G s i hs (by omega) h5).v (AVleA.rfl' _) (SubN.refl _) ?_
                rintro r σ' ⟨hr, rfl⟩
                cases hq : numS s i with
                | bad n =>
                  rw [hq] at hr hns
                  obtain ⟨k, a, t, y, rfl⟩ := hr
                  have hd : decide ((0 : Int) ≤ (n : Int)) = true := decide_eq_true (by omega)
                  (try simp -dsimp -implicitDefEqProofs only [EV1, EV2, EV3, EV4, Nat.reduceEqDiff, ↓reduceIte, List.contains_cons, List.contains_nil, Nat.reduceBEq, Bool.or_false, Bool.false_or, Bool.or_true, Bool.true_or, Bool.not_true, Bool.not_false, reduceCtorEq, List.map_cons, List.map_nil, BEq.rfl, retQ_ret, retQ_normal, RX_nil, RX_tmp, RX_cell, one_nil, one_one, one_two, argEnv_nil, argEnv_cons, Nat.reduceAdd, List.length_cons, List.length_nil, List.cons_append, List.nil_append, List.drop_succ_cons, List.drop_zero, List.drop_nil, List.take_succ_cons, List.take_zero, List.headD_cons, Nat.reduceLeDiff, true_and, and_true, eq_self, Nat.le_refl, Nat.reduceLT, List.getD_cons_zero, List.getD_cons_succ])
                  intro b hb2
                  (try simp -dsimp -implicitDefEqProofs only [EV1, EV2, EV3, EV4, Nat.reduceEqDiff, ↓reduceIte, List.contains_cons, List.contains_nil, Nat.reduceBEq, Bool.or_false, Bool.false_or, Bool.or_true, Bool.true_or, Bool.not_true, Bool.not_false, reduceCtorEq, List.map_cons, List.map_nil, BEq.rfl, retQ_ret, retQ_normal, RX_nil, RX_tmp, RX_cell, one_nil, one_one, one_two, argEnv_nil, argEnv_cons, Nat.reduceAdd, List.length_cons, List.length_nil, List.cons_append, List.nil_append, List.drop_succ_cons, List.drop_zero, List.drop_nil, List.take_succ_cons, List.take_zero, List.headD_cons, Nat.reduceLeDiff, true_and, and_true, eq_self, Nat.le_refl, Nat.reduceLT, List.getD_cons_zero, List.getD_cons_succ, r12, hd])
                  exact bad n hns _
                | good k a t e =>
                  rw [hq] at hr hns
                  have hr : r = .tup [.agg [.int .i64 k, .int .i64 a, .str t], .int .i64 e, .int .i64 (-1)] := hr
                  subst hr
                  obtain ⟨g1, g2, g3⟩ := good _ _ _ _ hns
                  (try simp -dsimp -implicitDefEqProofs only [EV1, EV2, EV3, EV4, Nat.reduceEqDiff, ↓reduceIte, List.contains_cons, List.contains_nil, Nat.reduceBEq, Bool.or_false, Bool.false_or, Bool.or_true, Bool.true_or, Bool.not_true, Bool.not_false, reduceCtorEq, List.map_cons, List.map_nil, BEq.rfl, retQ_ret, retQ_normal, RX_nil, RX_tmp, RX_cell, one_nil, one_one, one_two, argEnv_nil, argEnv_cons, Nat.reduceAdd, List.length_cons, List.length_nil, List.cons_append, List.nil_append, List.drop_succ_cons, List.drop_zero, List.drop_nil, List.take_succ_cons, List.take_zero, List.headD_cons, Nat.reduceLeDiff, true_and, and_true, eq_self, Nat.le_refl, Nat.reduceLT, List.getD_cons_zero, List.getD_cons_succ])
                  intro b hb2
                  have hd2 : decide ((0 : Int) ≤ -1) = false := rfl
                  (try simp -dsimp -implicitDefEqProofs only [EV1, EV2, EV3, EV4, Nat.reduceEqDiff, ↓reduceIte, List.contains_cons, List.contains_nil, Nat.reduceBEq, Bool.or_false, Bool.false_or, Bool.or_true, Bool.true_or, Bool.not_true, Bool.not_false, reduceCtorEq, List.map_cons, List.map_nil, BEq.rfl, retQ_ret, retQ_normal, RX_nil, RX_tmp, RX_cell, one_nil, one_one, one_two, argEnv_nil, argEnv_cons, Nat.reduceAdd, List.length_cons, List.length_nil, List.cons_append, List.nil_append, List.drop_succ_cons, List.drop_zero, List.drop_nil, List.take_succ_cons, List.take_zero, List.headD_cons, Nat.reduceLeDiff, true_and, and_true, eq_self, Nat.le_refl, Nat.reduceLT, List.getD_cons_zero, List.getD_cons_succ, hd2])
                  refine build_app2 (x := ⟨k, i, t⟩) (by omega) ?_ (fun g' σ' hsub => ?_) hb2
                  · obtain ⟨_, _, rfl⟩ := nextS_end (s := s) (i := i) (by omega) hns
                    simp [splice, Tok.row]
                  · (try simp -dsimp -implicitDefEqProofs only [EV1, EV2, EV3, EV4, Nat.reduceEqDiff, ↓reduceIte, List.contains_cons, List.contains_nil, Nat.reduceBEq, Bool.or_false, Bool.false_or, Bool.or_true, Bool.true_or, Bool.not_true, Bool.not_false, reduceCtorEq, List.map_cons, List.map_nil, BEq.rfl, retQ_ret, retQ_normal, RX_nil, RX_tmp, RX_cell, one_nil, one_one, one_two, argEnv_nil, argEnv_cons, Nat.reduceAdd, List.length_cons, List.length_nil, List.cons_append, List.nil_append, List.drop_succ_cons, List.drop_zero, List.drop_nil, List.take_succ_cons, List.take_zero, List.headD_cons, Nat.reduceLeDiff, true_and, and_true, eq_self, Nat.le_refl, Nat.reduceLT, List.getD_cons_zero, List.getD_cons_succ])
                    exact ⟨(g', l ++ [⟨k, i, t⟩], e), ⟨g2, by simp; omega, g3⟩, by simp only; omega, Weak.store hsub⟩
            · have h5 : isSmall (s.getD i 0) = true := by simpa using h5
              have hns : nextS s i = wordS s i := by
                unfold nextS
                rw [h5]
                rfl
              (try simp -dsimp -implicitDefEqProofs only [EV1, EV2, EV3, EV4, Nat.reduceEqDiff, ↓reduceIte, List.contains_cons, List.contains_nil, Nat.reduceBEq, Bool.or_false, Bool.false_or, Bool.or_true, Bool.true_or, Bool.not_true, Bool.not_false, reduceCtorEq, List.map_cons, List.map_nil, BEq.rfl, retQ_ret, retQ_normal, RX_nil, RX_tmp, RX_cell, one_nil, one_one, one_two, argEnv_nil, argEnv_cons, Nat.reduceAdd, List.length_cons, List.length_nil, List.cons_append, List.nil_append, List.drop_succ_cons, List.drop_zero, List.drop_nil, List.take_succ_cons, List.take_zero, List.headD_cons, Nat.reduceLeDiff, true_and, and_true, eq_self, Nat.le_refl, Nat.reduceLT, List.getD_cons_zero, List.getD_cons_succ])
              refine CALL_spec [] (tokS g 33 ((rowsT l).length * 3)) (f33w G s i hs (by omega) h5).v (AVleA.rfl' _) (SubN.refl _) ?_
              rintro r σ' ⟨hr, rfl⟩
              cases hq : wordS s i with
              | bad n =>
                rw [hq] at hr hns
                obtain ⟨k, a, t, y, rfl⟩ := hr
                have hd : decide ((0 : Int) ≤ (n : Int)) = true := decide_eq_true (by omega)
                (try simp -dsimp -implicitDefEqProofs only [EV1, EV2, EV3, EV4, Nat.reduceEqDiff, ↓reduceIte, List.contains_cons, List.contains_nil, Nat.reduceBEq, Bool.or_false, Bool.false_or, Bool.or_true, Bool.true_or, Bool.not_true, Bool.not_false, reduceCtorEq, List.map_cons, List.map_nil, BEq.rfl, retQ_ret, retQ_normal, RX_nil, RX_tmp, RX_cell, one_nil, one_one, one_two, argEnv_nil, argEnv_cons, Nat.reduceAdd, List.length_cons, List.length_nil, List.cons_append, List.nil_append, List.drop_succ_cons, List.drop_zero, List.drop_nil, List.take_succ_cons, List.take_zero, List.headD_cons, Nat.reduceLeDiff, true_and, and_true, eq_self, Nat.le_refl, Nat.reduceLT, List.getD_cons_zero, List.getD_cons_succ])
                intro b hb2
                (try simp -dsimp -implicitDefEqProofs only [EV1, EV2, EV3, EV4, Nat.reduceEqDiff, ↓reduceIte, List.contains_cons, List.contains_nil, Nat.reduceBEq, Bool.or_false, Bool.false_or, Bool.or_true, Bool.true_or, Bool.not_true, Bool.not_false, reduceCtorEq, List.map_cons, List.map_nil, BEq.rfl, retQ_ret, retQ_normal, RX_nil, RX_tmp, RX_cell, one_nil, one_one, one_two, argEnv_nil, argEnv_cons, Nat.reduceAdd, List.length_cons, List.length_nil, List.cons_append, List.nil_append, List.drop_succ_cons, List.drop_zero, List.drop_nil, List.take_succ_cons, List.take_zero, List.headD_cons, Nat.reduceLeDiff, true_and, and_true, eq_self, Nat.le_refl, Nat.reduceLT, List.getD_cons_zero, List.getD_cons_succ, r12, hd])
                exact bad n hns _
              | good k a t e =>
                rw [hq] at hr hns
                have hr : r = .tup [.agg [.int .i64 k, .int .i64 a, .str t], .int .i64 e, .int .i64 (-1)] := hr
                subst hr
                obtain ⟨g1, g2, g3⟩ := good _ _ _ _ hns
                (try simp -dsimp -implicitDefEqProofs only [EV1, EV2, EV3, EV4, Nat.reduceEqDiff, ↓reduceIte, List.contains_cons, List.contains_nil, Nat.reduceBEq, Bool.or_false, Bool.false_or, Bool.or_true, Bool.true_or, Bool.not_true, Bool.not_false, reduceCtorEq, List.map_cons, List.map_nil, BEq.rfl, retQ_ret, retQ_normal, RX_nil, RX_tmp, RX_cell, one_nil, one_one, one_two, argEnv_nil, argEnv_cons, Nat.reduceAdd, List.length_cons, List.length_nil, List.cons_append, List.nil_append, List.drop_succ_cons, List.drop_zero, List.drop_nil, List.take_succ_cons, List.take_zero, List.headD_cons, Nat.reduceLeDiff, true_and, and_true, eq_self, Nat.le_refl, Nat.reduceLT, List.getD_cons_zero, List.getD_cons_succ])
                intro b hb2
                have hd2 : decide ((0 : Int) ≤ -1) = false := rfl
                (try simp -dsimp -implicitDefEqProofs only [EV1, EV2, EV3, EV4, Nat.reduceEqDiff, ↓reduceIte, List.contains_cons, List.contains_nil, Nat.reduceBEq, Bool.or_false, Bool.false_or, Bool.or_true, Bool.true_or, Bool.not_true, Bool.not_false, reduceCtorEq, List.map_cons, List.map_nil, BEq.rfl, retQ_ret, retQ_normal, RX_nil, RX_tmp, RX_cell, one_nil, one_one, one_two, argEnv_nil, argEnv_cons, Nat.reduceAdd, List.length_cons, List.length_nil, List.cons_append, List.nil_append, List.drop_succ_cons, List.drop_zero, List.drop_nil, List.take_succ_cons, List.take_zero, List.headD_cons, Nat.reduceLeDiff, true_and, and_true, eq_self, Nat.le_refl, Nat.reduceLT, List.getD_cons_zero, List.getD_cons_succ, hd2])
                refine build_app2 (x := ⟨k, i, t⟩) (by omega) ?_ (fun g' σ' hsub => ?_) hb2
                · obtain ⟨_, _, rfl⟩ := nextS_end (s := s) (i := i) (by omega) hns
                  simp [splice, Tok.row]
                · (try simp -dsimp -implicitDefEqProofs only [EV1, EV2, EV3, EV4, Nat.reduceEqDiff, ↓reduceIte, List.contains_cons, List.contains_nil, Nat.reduceBEq, Bool.or_false, Bool.false_or, Bool.or_true, Bool.true_or, Bool.not_true, Bool.not_false, reduceCtorEq, List.map_cons, List.map_nil, BEq.rfl, retQ_ret, retQ_normal, RX_nil, RX_tmp, RX_cell, one_nil, one_one, one_two, argEnv_nil, argEnv_cons, Nat.reduceAdd, List.length_cons, List.length_nil, List.cons_append, List.nil_append, List.drop_succ_cons, List.drop_zero, List.drop_nil, List.take_succ_cons, List.take_zero, List.headD_cons, Nat.reduceLeDiff, true_and, and_true, eq_self, Nat.le_refl, Nat.reduceLT, List.getD_cons_zero, List.getD_cons_succ])
                  exact ⟨(g', l ++ [⟨k, i, t⟩], e), ⟨g2, by simp; omega, g3⟩, by simp only; omega, Weak.store hsub⟩
    · have h1 := of_decide_eq_true h1
      (try simp -dsimp -implicitDefEqProofs only [EV1, EV2, EV3, EV4, Nat.reduceEqDiff, ↓reduceIte, List.contains_cons, List.contains_nil, Nat.reduceBEq, Bool.or_false, Bool.false_or, Bool.or_true, Bool.true_or, Bool.not_true, Bool.not_false, reduceCtorEq, List.map_cons, List.map_nil, BEq.rfl, retQ_ret, retQ_normal, RX_nil, RX_tmp, RX_cell, one_nil, one_one, one_two, argEnv_nil, argEnv_cons, Nat.reduceAdd, List.length_cons, List.length_nil, List.cons_append, List.nil_append, List.drop_succ_cons, List.drop_zero, List.drop_nil, List.take_succ_cons, List.take_zero, List.headD_cons, Nat.reduceLeDiff, true_and, and_true, eq_self, Nat.le_refl, Nat.reduceLT, List.getD_cons_zero, List.getD_cons_succ, hw])
      exact ⟨(g, l, i + 1), ⟨by simp only; omega, by simp only; omega, blank (by unfold isBlank; rw [show (s.getD i 0).toNat = 32 by omega]; rfl)⟩, by simp only; omega, Weak.rfl' _ _⟩
  · have h := of_decide_eq_false h
    (try simp -dsimp -implicitDefEqProofs only [EV1, EV2, EV3, EV4, Nat.reduceEqDiff, ↓reduceIte, List.contains_cons, List.contains_nil, Nat.reduceBEq, Bool.or_false, Bool.false_or, Bool.or_true, Bool.true_or, Bool.not_true, Bool.not_false, reduceCtorEq, List.map_cons, List.map_nil, BEq.rfl, retQ_ret, retQ_normal, RX_nil, RX_tmp, RX_cell, one_nil, one_one, one_two, argEnv_nil, argEnv_cons, Nat.reduceAdd, List.length_cons, List.length_nil, List.cons_append, List.nil_append, List.drop_succ_cons, List.drop_zero, List.drop_nil, List.take_succ_cons, List.take_zero, List.headD_cons, Nat.reduceLeDiff, true_and, and_true, eq_self, Nat.le_refl, Nat.reduceLT, List.getD_cons_zero, List.getD_cons_succ, r12])
    rw [scan_end s i (by omega)] at he
    refine hR _ _ ?_
    rw [he]
    simp only [Lx.pre, List.append_nil, Lx.av]
    exact Or.inr ⟨Or.inr ⟨rfl, rfl⟩, Or.inl rfl, Or.inl rfl, trivial⟩
end
end Go.Av
