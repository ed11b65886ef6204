/-
  THE LEXER, 8: the library's functions: bytes, a Builder.
-/
import Derived.Test.YtmghejoigggooaaGreatDoorXAv21
import Derived.Test.YtmghejoigggooaaGreatDoorXTok7
import Derived.Test.YtmghejoigggooaaGreatDoorXTokL
import Derived.Test.YtmghejoigggooaaGreatDoorShelf
namespace Go.Av
open Go Go.RowKit Go.Proofs
set_option linter.unusedSimpArgs false

section
variable (G : Glob)

theorem f26 (s : List UInt8) (c : UInt8) : Pure G Tryz.prog 26 [.str s, .int .u8 c.toNat] (.int .i64 (Lib.indexByte s c)) := by
  refine Pure.of_calls Tryz.func26 (by kernel_rfl) (by kernel_rfl) fun τ w vs hS hA => ?_
  obtain ⟨u, v, rfl, h1, h2⟩ := vs_two hA
  simp only [Rep] at h1 h2
  subst h1 h2
  refine ⟨.int .i64 (Lib.indexByte s c), fun _ _ => by simp only [Rep], ?_⟩
  refine (Tryz.strings_IndexByte ⟨⟨s⟩⟩ c.toNat w).mono ?_
  rintro e w' ⟨rfl, rfl⟩
  exact ⟨by simp, Below.refl _ _⟩

theorem f141 (s : List UInt8) (c : UInt8) : Pure G Tryz.prog 141 [.str s, .str [c]] (.int .i64 (Lib.countByte s c)) := by
  refine Pure.of_calls Tryz.func141 (by kernel_rfl) (by kernel_rfl) fun τ w vs hS hA => ?_
  obtain ⟨u, v, rfl, h1, h2⟩ := vs_two hA
  simp only [Rep] at h1 h2
  subst h1 h2
  refine ⟨.int .i64 (Lib.countByte s c), fun _ _ => by simp only [Rep], ?_⟩
  refine (Tryz.strings_Count_one ⟨⟨s⟩⟩ c w).mono ?_
  rintro e w' ⟨rfl, rfl⟩
  exact ⟨rfl, Below.refl _ _⟩

/-- A Builder's cells: its own address, its bytes. -/
def bldS (b : Nat) (p : Option Addr) (g : Option Nat) (t : List UInt8) : Store := (b, .cells 82 [.sc (.pointer p), .own g 5 1 (byteRows t)]) :: tokS g 5 ((byteRows t).length * 1)

theorem x83 (a : Addr) (σ : Store) : XSpec G Tryz.prog (.func (.func 83) #[] #[]) [.sc (.pointer (some a))] σ fun r σ' => r = .sc (.pointer (some a)) ∧ σ' = σ := by
  refine ⟨83, #[], #[], rfl, fun ρ w vs hS hA => ?_⟩
  obtain ⟨u, rfl, h1⟩ := vs_one (by simpa using hA)
  simp only [Rep] at h1
  subst h1
  refine ⟨.pointer (some a), _, σ, w, ?_, ⟨rfl, rfl⟩, hS, Ev.refl _ _, by simp only [Rep]⟩
  rw [run_callFunc_extern Tryz.func83 (by kernel_rfl) (by kernel_rfl) (by kernel_rfl) (e := Extern.AbiNoEscape.same) (by kernel_rfl)]
  rfl

theorem bld_get (b : Nat) (p : Option Addr) (g : Option Nat) (t : List UInt8) : Store.get (bldS b p g t) b = some (.cells 82 [.sc (.pointer p), .own g 5 1 (byteRows t)]) := by simp [bldS, Store.get]

/-- copyCheck: the Builder knows its own address behind it. -/
theorem f71 (b : Nat) (p : Option Addr) (g : Option Nat) (t : List UInt8) (hp : p = none ∨ p = some ⟨b, 0, none⟩) :
    FnSpec G Tryz.prog 71 [.sc (.pointer (some ⟨b, 0, none⟩))] (bldS b p g t) fun r σ => r = .tup [] ∧ σ = bldS b (some ⟨b, 0, none⟩) g t := by
  refine FnSpec.w c71 ?_
  unfold s71 r71
  have hT : RET (.tup []) (bldS b (some ⟨b, 0, none⟩) g t) (fun r σ => r = .tup [] ∧ σ = bldS b (some ⟨b, 0, none⟩) g t) := ⟨_, _, AVle.rfl' _, SubN.refl _, rfl, rfl⟩
  generalize hR : (fun (r : AV) σ => r = .tup [] ∧ σ = bldS b (some ⟨b, 0, none⟩) g t) = R at *
  have hg := bld_get b
  rcases hp with rfl | rfl
  · simp only [bldS] at *
    simp -dsimp -implicitDefEqProofs only [EV1, EV2, EV3, EV4, Nat.reduceEqDiff, ↓reduceIte, List.contains_cons, List.contains_nil, Nat.reduceBEq, Bool.or_false, Bool.false_or, Bool.or_true, Bool.true_or, Bool.not_true, Bool.not_false, reduceCtorEq, List.map_cons, List.map_nil, BEq.rfl, retQ_ret, retQ_normal, RX_nil, RX_tmp, RX_cell, one_nil, one_one, one_two, argEnv_nil, argEnv_cons, Nat.reduceAdd, List.length_cons, List.length_nil, List.cons_append, List.nil_append, List.drop_succ_cons, List.drop_zero, List.drop_nil, List.take_succ_cons, List.take_zero, List.headD_cons, Nat.reduceLeDiff, true_and, and_true, eq_self, Nat.le_refl, Nat.reduceLT, List.getD_cons_zero, List.getD_cons_succ]
    simp only [Option.isNone_none]
    simp -dsimp -implicitDefEqProofs only [EV1, EV2, EV3, EV4, Nat.reduceEqDiff, ↓reduceIte, List.contains_cons, List.contains_nil, Nat.reduceBEq, Bool.or_false, Bool.false_or, Bool.or_true, Bool.true_or, Bool.not_true, Bool.not_false, reduceCtorEq, List.map_cons, List.map_nil, BEq.rfl, retQ_ret, retQ_normal, RX_nil, RX_tmp, RX_cell, one_nil, one_one, one_two, argEnv_nil, argEnv_cons, Nat.reduceAdd, List.length_cons, List.length_nil, List.cons_append, List.nil_append, List.drop_succ_cons, List.drop_zero, List.drop_nil, List.take_succ_cons, List.take_zero, List.headD_cons, Nat.reduceLeDiff, true_and, and_true, eq_self, Nat.le_refl, Nat.reduceLT, List.getD_cons_zero, List.getD_cons_succ]
    refine RAW_toUnsafe (b := b) (o := 0) (n := 2) rfl Tryz.underlying80 Tryz.underlying120 (by kernel_rfl) (by decide) (hg none g t) (by simp) ?_
    simp -dsimp -implicitDefEqProofs only [EV1, EV2, EV3, EV4, Nat.reduceEqDiff, ↓reduceIte, List.contains_cons, List.contains_nil, Nat.reduceBEq, Bool.or_false, Bool.false_or, Bool.or_true, Bool.true_or, Bool.not_true, Bool.not_false, reduceCtorEq, List.map_cons, List.map_nil, BEq.rfl, retQ_ret, retQ_normal, RX_nil, RX_tmp, RX_cell, one_nil, one_one, one_two, argEnv_nil, argEnv_cons, Nat.reduceAdd, List.length_cons, List.length_nil, List.cons_append, List.nil_append, List.drop_succ_cons, List.drop_zero, List.drop_nil, List.take_succ_cons, List.take_zero, List.headD_cons, Nat.reduceLeDiff, true_and, and_true, eq_self, Nat.le_refl, Nat.reduceLT, List.getD_cons_zero, List.getD_cons_succ]
    refine CALL_x (bldS b none g t) [] (x83 G _ _) (AVleA.rfl' _) (by simp only [bldS, List.append_nil]; exact SubN.refl _) ?_
    rintro r σ' ⟨rfl, rfl⟩
    simp only [bldS, List.append_nil]
    simp -dsimp -implicitDefEqProofs only [EV1, EV2, EV3, EV4, Nat.reduceEqDiff, ↓reduceIte, List.contains_cons, List.contains_nil, Nat.reduceBEq, Bool.or_false, Bool.false_or, Bool.or_true, Bool.true_or, Bool.not_true, Bool.not_false, reduceCtorEq, List.map_cons, List.map_nil, BEq.rfl, retQ_ret, retQ_normal, RX_nil, RX_tmp, RX_cell, one_nil, one_one, one_two, argEnv_nil, argEnv_cons, Nat.reduceAdd, List.length_cons, List.length_nil, List.cons_append, List.nil_append, List.drop_succ_cons, List.drop_zero, List.drop_nil, List.take_succ_cons, List.take_zero, List.headD_cons, Nat.reduceLeDiff, true_and, and_true, eq_self, Nat.le_refl, Nat.reduceLT, List.getD_cons_zero, List.getD_cons_succ]
    refine RAW_fromUnsafe (b := b) (o := 0) (n := 2) rfl Tryz.underlying120 Tryz.underlying80 (by kernel_rfl) (hg none g t) (by kernel_rfl) ?_
    simp -dsimp -implicitDefEqProofs only [EV1, EV2, EV3, EV4, Nat.reduceEqDiff, ↓reduceIte, List.contains_cons, List.contains_nil, Nat.reduceBEq, Bool.or_false, Bool.false_or, Bool.or_true, Bool.true_or, Bool.not_true, Bool.not_false, reduceCtorEq, List.map_cons, List.map_nil, BEq.rfl, retQ_ret, retQ_normal, RX_nil, RX_tmp, RX_cell, one_nil, one_one, one_two, argEnv_nil, argEnv_cons, Nat.reduceAdd, List.length_cons, List.length_nil, List.cons_append, List.nil_append, List.drop_succ_cons, List.drop_zero, List.drop_nil, List.take_succ_cons, List.take_zero, List.headD_cons, Nat.reduceLeDiff, true_and, and_true, eq_self, Nat.le_refl, Nat.reduceLT, List.getD_cons_zero, List.getD_cons_succ]
    exact hT
  · simp only [bldS] at *
    simp -dsimp -implicitDefEqProofs only [EV1, EV2, EV3, EV4, Nat.reduceEqDiff, ↓reduceIte, List.contains_cons, List.contains_nil, Nat.reduceBEq, Bool.or_false, Bool.false_or, Bool.or_true, Bool.true_or, Bool.not_true, Bool.not_false, reduceCtorEq, List.map_cons, List.map_nil, BEq.rfl, retQ_ret, retQ_normal, RX_nil, RX_tmp, RX_cell, one_nil, one_one, one_two, argEnv_nil, argEnv_cons, Nat.reduceAdd, List.length_cons, List.length_nil, List.cons_append, List.nil_append, List.drop_succ_cons, List.drop_zero, List.drop_nil, List.take_succ_cons, List.take_zero, List.headD_cons, Nat.reduceLeDiff, true_and, and_true, eq_self, Nat.le_refl, Nat.reduceLT, List.getD_cons_zero, List.getD_cons_succ]
    simp only [Option.isNone_some]
    simp -dsimp -implicitDefEqProofs only [EV1, EV2, EV3, EV4, Nat.reduceEqDiff, ↓reduceIte, List.contains_cons, List.contains_nil, Nat.reduceBEq, Bool.or_false, Bool.false_or, Bool.or_true, Bool.true_or, Bool.not_true, Bool.not_false, reduceCtorEq, List.map_cons, List.map_nil, BEq.rfl, retQ_ret, retQ_normal, RX_nil, RX_tmp, RX_cell, one_nil, one_one, one_two, argEnv_nil, argEnv_cons, Nat.reduceAdd, List.length_cons, List.length_nil, List.cons_append, List.nil_append, List.drop_succ_cons, List.drop_zero, List.drop_nil, List.take_succ_cons, List.take_zero, List.headD_cons, Nat.reduceLeDiff, true_and, and_true, eq_self, Nat.le_refl, Nat.reduceLT, List.getD_cons_zero, List.getD_cons_succ]
    refine RAW_neq_ptr (te := 82) (n := 2) rfl rfl Tryz.underlying80 (by kernel_rfl) ?_
    simp -dsimp -implicitDefEqProofs only [EV1, EV2, EV3, EV4, Nat.reduceEqDiff, ↓reduceIte, List.contains_cons, List.contains_nil, Nat.reduceBEq, Bool.or_false, Bool.false_or, Bool.or_true, Bool.true_or, Bool.not_true, Bool.not_false, reduceCtorEq, List.map_cons, List.map_nil, BEq.rfl, retQ_ret, retQ_normal, RX_nil, RX_tmp, RX_cell, one_nil, one_one, one_two, argEnv_nil, argEnv_cons, Nat.reduceAdd, List.length_cons, List.length_nil, List.cons_append, List.nil_append, List.drop_succ_cons, List.drop_zero, List.drop_nil, List.take_succ_cons, List.take_zero, List.headD_cons, Nat.reduceLeDiff, true_and, and_true, eq_self, Nat.le_refl, Nat.reduceLT, List.getD_cons_zero, List.getD_cons_succ]
    exact hT


/-- WriteByte. -/
theorem f60 (b : Nat) (p : Option Addr) (g : Option Nat) (t : List UInt8) (c : UInt8) (hp : p = none ∨ p = some ⟨b, 0, none⟩) (hg : ∀ x, g = some x → ¬ x = b) (ht : t.length < 1000000000) :
    FnSpec G Tryz.prog 60 [.sc (.pointer (some ⟨b, 0, none⟩)), .int .u8 c.toNat] (bldS b p g t) fun r σ => r = .sc .nilIface ∧ ∃ g', (∀ x, g' = some x → ¬ x = b) ∧ σ = bldS b (some ⟨b, 0, none⟩) g' (t ++ [c]) := by
  refine FnSpec.w c60 ?_
  unfold s60 r60
  have hT : ∀ g' σ, (∀ x, g' = some x → ¬ x = b) → SubN (bldS b (some ⟨b, 0, none⟩) g' (t ++ [c])) σ → RET (.sc .nilIface) σ (fun r σ => r = .sc .nilIface ∧ ∃ g', (∀ x, g' = some x → ¬ x = b) ∧ σ = bldS b (some ⟨b, 0, none⟩) g' (t ++ [c])) :=
    fun g' σ h1 h2 => ⟨_, _, AVle.rfl' _, h2, rfl, g', h1, rfl⟩
  generalize hR : (fun (r : AV) σ => r = .sc .nilIface ∧ ∃ g', (∀ x, g' = some x → ¬ x = b) ∧ σ = bldS b (some ⟨b, 0, none⟩) g' (t ++ [c])) = R at *
  simp -dsimp -implicitDefEqProofs only [EV1, EV2, EV3, EV4, Nat.reduceEqDiff, ↓reduceIte, List.contains_cons, List.contains_nil, Nat.reduceBEq, Bool.or_false, Bool.false_or, Bool.or_true, Bool.true_or, Bool.not_true, Bool.not_false, reduceCtorEq, List.map_cons, List.map_nil, BEq.rfl, retQ_ret, retQ_normal, RX_nil, RX_tmp, RX_cell, one_nil, one_one, one_two, argEnv_nil, argEnv_cons, Nat.reduceAdd, List.length_cons, List.length_nil, List.cons_append, List.nil_append, List.drop_succ_cons, List.drop_zero, List.drop_nil, List.take_succ_cons, List.take_zero, List.headD_cons, Nat.reduceLeDiff, true_and, and_true, eq_self, Nat.le_refl, Nat.reduceLT, List.getD_cons_zero, List.getD_cons_succ]
  refine CALL_spec (bldS b p g t) [] (f71 G b p g t hp).v (AVleA.rfl' _) (by rw [List.append_nil]; exact SubN.refl _) ?_
  rintro r σ' ⟨rfl, rfl⟩
  simp only [bldS, List.append_nil] at *
  (try simp -dsimp -implicitDefEqProofs only [EV1, EV2, EV3, EV4, Nat.reduceEqDiff, ↓reduceIte, List.contains_cons, List.contains_nil, Nat.reduceBEq, Bool.or_false, Bool.false_or, Bool.or_true, Bool.true_or, Bool.not_true, Bool.not_false, reduceCtorEq, List.map_cons, List.map_nil, BEq.rfl, retQ_ret, retQ_normal, RX_nil, RX_tmp, RX_cell, one_nil, one_one, one_two, argEnv_nil, argEnv_cons, Nat.reduceAdd, List.length_cons, List.length_nil, List.cons_append, List.nil_append, List.drop_succ_cons, List.drop_zero, List.drop_nil, List.take_succ_cons, List.take_zero, List.headD_cons, Nat.reduceLeDiff, true_and, and_true, eq_self, Nat.le_refl, Nat.reduceLT, List.getD_cons_zero, List.getD_cons_succ])
  intro b2 hb2
  have hb2b : ¬ b2 = b := fun e => hb2 (by simp [Store.keys, e])
  have hbb2 : ¬ b = b2 := fun e => hb2b e.symm
  refine ⟨[[.int .u8 c.toNat]], rfl, by simp, by simp [splice], ?_⟩
  refine ⟨?_, by simp [byteRows_len]; omega, ?_⟩
  · rintro x rfl
    have h1 := hg x rfl
    have h2 : ¬ b2 = x := fun e => hb2 (by simp [Store.keys, tokS, e])
    have h3 : ¬ b = x := fun e => h1 e.symm
    simp [Store.get, tokS, h2, h3]
  · intro g' _ hg'
    have e1 : byteRows (t ++ [c]) = byteRows t ++ [[.int .u8 c.toNat]] := byteRows_app t [c]
    rw [e1] at hT
    generalize byteRows t ++ [[.int .u8 c.toNat]] = rows at *
    clear e1 hR
    refine ⟨_, SubN.refl _, ?_⟩
    rcases g with _ | x
    · rcases g' with _ | y
      · (try simp -dsimp -implicitDefEqProofs only [EV1, EV2, EV3, EV4, Nat.reduceEqDiff, ↓reduceIte, List.contains_cons, List.contains_nil, Nat.reduceBEq, Bool.or_false, Bool.false_or, Bool.or_true, Bool.true_or, Bool.not_true, Bool.not_false, reduceCtorEq, List.map_cons, List.map_nil, BEq.rfl, retQ_ret, retQ_normal, RX_nil, RX_tmp, RX_cell, one_nil, one_one, one_two, argEnv_nil, argEnv_cons, Nat.reduceAdd, List.length_cons, List.length_nil, List.cons_append, List.nil_append, List.drop_succ_cons, List.drop_zero, List.drop_nil, List.take_succ_cons, List.take_zero, List.headD_cons, Nat.reduceLeDiff, true_and, and_true, eq_self, Nat.le_refl, Nat.reduceLT, List.getD_cons_zero, List.getD_cons_succ, tokS, erase_none, hbb2, hb2b])
        refine hT none _ (by simp) ?_
        exact ⟨by intro q hq; simp [tokS] at hq ⊢; grind, by simp [Store.keys, tokS] <;> grind⟩
      · have h4 : ¬ y = b2 ∧ ¬ y = b := by simpa [Store.erase, Store.keys, tokS] using hg'
        obtain ⟨h4, h5⟩ := h4
        (try simp -dsimp -implicitDefEqProofs only [EV1, EV2, EV3, EV4, Nat.reduceEqDiff, ↓reduceIte, List.contains_cons, List.contains_nil, Nat.reduceBEq, Bool.or_false, Bool.false_or, Bool.or_true, Bool.true_or, Bool.not_true, Bool.not_false, reduceCtorEq, List.map_cons, List.map_nil, BEq.rfl, retQ_ret, retQ_normal, RX_nil, RX_tmp, RX_cell, one_nil, one_one, one_two, argEnv_nil, argEnv_cons, Nat.reduceAdd, List.length_cons, List.length_nil, List.cons_append, List.nil_append, List.drop_succ_cons, List.drop_zero, List.drop_nil, List.take_succ_cons, List.take_zero, List.headD_cons, Nat.reduceLeDiff, true_and, and_true, eq_self, Nat.le_refl, Nat.reduceLT, List.getD_cons_zero, List.getD_cons_succ, tokS, erase_none, hbb2, hb2b, h4, h5])
        refine hT (some y) _ (by rintro z ⟨⟩; exact h5) ?_
        exact ⟨by intro q hq; simp [tokS] at hq ⊢; grind, by simp [Store.keys, tokS] <;> grind⟩
    · have h1 := hg x rfl
      have h2 : ¬ b2 = x := fun e => hb2 (by simp [Store.keys, tokS, e])
      have h3 : ¬ b = x := fun e => h1 e.symm
      rcases g' with _ | y
      · (try simp -dsimp -implicitDefEqProofs only [EV1, EV2, EV3, EV4, Nat.reduceEqDiff, ↓reduceIte, List.contains_cons, List.contains_nil, Nat.reduceBEq, Bool.or_false, Bool.false_or, Bool.or_true, Bool.true_or, Bool.not_true, Bool.not_false, reduceCtorEq, List.map_cons, List.map_nil, BEq.rfl, retQ_ret, retQ_normal, RX_nil, RX_tmp, RX_cell, one_nil, one_one, one_two, argEnv_nil, argEnv_cons, Nat.reduceAdd, List.length_cons, List.length_nil, List.cons_append, List.nil_append, List.drop_succ_cons, List.drop_zero, List.drop_nil, List.take_succ_cons, List.take_zero, List.headD_cons, Nat.reduceLeDiff, true_and, and_true, eq_self, Nat.le_refl, Nat.reduceLT, List.getD_cons_zero, List.getD_cons_succ, tokS, erase_cons, erase_nil, hbb2, hb2b, h2, h3])
        refine hT none _ (by simp) ?_
        exact ⟨by intro q hq; simp [tokS] at hq ⊢; grind, by simp [Store.keys, tokS] <;> grind⟩
      · have h4 : ¬ y = b2 ∧ ¬ y = b := by simpa [Store.keys, tokS, erase_cons, erase_nil, h2, h3] using hg'
        obtain ⟨h4, h5⟩ := h4
        (try simp -dsimp -implicitDefEqProofs only [EV1, EV2, EV3, EV4, Nat.reduceEqDiff, ↓reduceIte, List.contains_cons, List.contains_nil, Nat.reduceBEq, Bool.or_false, Bool.false_or, Bool.or_true, Bool.true_or, Bool.not_true, Bool.not_false, reduceCtorEq, List.map_cons, List.map_nil, BEq.rfl, retQ_ret, retQ_normal, RX_nil, RX_tmp, RX_cell, one_nil, one_one, one_two, argEnv_nil, argEnv_cons, Nat.reduceAdd, List.length_cons, List.length_nil, List.cons_append, List.nil_append, List.drop_succ_cons, List.drop_zero, List.drop_nil, List.take_succ_cons, List.take_zero, List.headD_cons, Nat.reduceLeDiff, true_and, and_true, eq_self, Nat.le_refl, Nat.reduceLT, List.getD_cons_zero, List.getD_cons_succ, tokS, erase_cons, erase_nil, hbb2, hb2b, h2, h3, h4, h5])
        refine hT (some y) _ (by rintro z ⟨⟩; exact h5) ?_
        exact ⟨by intro q hq; simp [tokS] at hq ⊢; grind, by simp [Store.keys, tokS] <;> grind⟩

end
end Go.Av
