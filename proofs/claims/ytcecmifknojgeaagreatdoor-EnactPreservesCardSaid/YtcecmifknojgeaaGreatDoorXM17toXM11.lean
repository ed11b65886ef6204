/-
  ENACT, M17: the units that an address means, by the program.
-/
import Derived.Test.YtcecmifknojgeaaGreatDoorXM2toXM9
import Derived.Test.YtcecmifknojgeaaGreatDoorXM15
section
namespace Go.Av
open Go Go.RowKit Go.Proofs
set_option linter.unusedSimpArgs false
set_option linter.unusedVariables false

section
variable (G : Glob)
theorem f187 (f : Value) (N : Nat) (St : List U → Store → Prop) (hN : N < 1000000) :
    ∀ (u : U), u.Tame → (∀ x ∈ u.flat, ∀ pre σ, St pre σ → pre.length < N → VSpec G Tryz.prog f [.agg x.cs] σ (fun r σ' => St (pre ++ [x]) σ')) →
      ∀ pre σ, St pre σ → pre.length + u.flat.length ≤ N → FnSpec G Tryz.prog 187 [.agg u.cs, .sc f] σ (fun r σ' => St (pre ++ u.flat) σ') := by
  refine U.ind fun u ih ht hf pre σ hSt hle => ?_
  have hkl := ht.kids
  have hfl := u.flat_eq
  have hlen : u.flat.length = 1 + (U.flats u.kids).length := by rw [hfl, List.length_cons]; omega
  refine FnSpec.w c187 ?_
  unfold s187 r187
  (repeat' (simp -dsimp -implicitDefEqProofs only [EVz, seval, ↓reduceIte, reduceCtorEq, EV6, EV7]))
  refine CALL_spec σ [] (hf u u.flat_self pre σ hSt (by omega)) (AVleA.rfl' _) (by simpa using SubN.refl _) ?_
  rintro r σ' hSt'
  rw [List.append_nil]
  (repeat' (first | simp -dsimp -implicitDefEqProofs only [EVz, seval, ↓reduceIte, reduceCtorEq, EV6, EV7, hx.yes, hx.le0, hx.lt', hx.get, hx.row, hw] | simp -dsimp -implicitDefEqProofs only [EVz, seval, ↓reduceIte, reduceCtorEq, EV6, EV7, hn] | simp -dsimp -implicitDefEqProofs only [EVz, seval, ↓reduceIte, reduceCtorEq, EV6, EV7] | (with_reducible intro blk hblk; (try (have hnx := hblk; simp only [EVK] at hnx; (have hne := hnx)))) | (refine W_list (ι := Store × List U) u.kids (fun i r c => St c.2 c.1 ∧ pre ++ u.flat = c.2 ++ U.flats r ∧ c.2.length + (U.flats r).length ≤ N) (fun i c => [(1, .sc f), (10, .lst 8 (u.kids.map U.cs)), (11, .int .i64 u.kids.length), (12, .int .i64 i)]) (fun i c => c.1) (σ', pre ++ [u]) ⟨hSt', by rw [hfl]; simp, by simp; omega⟩ (Weak.rfl' _ _) (by omega) (fun i x r c hok hx hw => ?_) (fun c hok hn => ?_) ) | fail))
  · obtain ⟨o1, o2, o3⟩ := hok
    rw [flats_cons] at o2 o3
    rw [List.length_append] at o3
    refine CALL_spec c.1 [(blk, .cells 27 x.cs)] (ih x hx.mem (ht.kid hx.mem) (fun y hy => hf y (flat_kids hx.mem hy)) c.2 c.1 o1 (by omega)).v (AVleA.rfl' _) SubN.comm1 ?_
    rintro r' σ2 hS2
    (repeat' (simp -dsimp -implicitDefEqProofs only [EVz, seval, ↓reduceIte, reduceCtorEq, EV6, EV7, hw]))
    exact LK_next hx (σ2, c.2 ++ x.flat) ⟨hS2, by rw [o2, List.append_assoc], by simp; omega⟩ (Weak.sub SubN.left)
  · obtain ⟨o1, o2, o3⟩ := hok
    exact RET.mk (SubN.refl _) (by rw [o2, flats_nil, List.append_nil]; exact o1)

def St1 (b3 b5 : Nat) (p : List Stp) (s : Stp) (pre : List U) (σ : Store) : Prop := ∃ v κ, (OpenL 27 8 ((pre.filter fun x => called x s).map U.cs) v κ ∨ (pre.filter fun x => called x s) = [] ∧ v = .nil ∧ κ = []) ∧ σ = [(b3, .cells 28 [.lst 2 (p.map Stp.cs)]), (b5, .cells 25 [v])] ++ κ
theorem f188 (b3 b5 : Nat) (s : Stp) (rs : List Stp) (x : U) (pre : List U) (hpre : pre.length < 1000000) (σ : Store) (hS : St1 b3 b5 (s :: rs) s pre σ) :
    FnSpec G Tryz.prog 188 [.agg x.cs, .sc (.pointer (some ⟨b3, 0, none⟩)), .sc (.pointer (some ⟨b5, 0, none⟩))] σ (fun r σ' => St1 b3 b5 (s :: rs) s (pre ++ [x]) σ') := by
  obtain ⟨v, κ, ho, rfl⟩ := hS
  have hC := f189 G x s
  have hfl : (pre.filter fun x => called x s).length ≤ pre.length := List.length_filter_le _ _
  obtain ⟨L, hL⟩ : ∃ L, pre.filter (fun x => called x s) = L := ⟨_, rfl⟩
  rw [hL] at ho hfl
  refine FnSpec.wn c188 fun hnd => ?_
  unfold s188 r188
  have hL1 : (pre ++ [x]).filter (fun x => called x s) = if called x s = true then L ++ [x] else L := by
    rw [List.filter_append, hL]
    cases hq : called x s <;> simp [hq]
  rcases ho with ⟨base, cap, rfl, ⟨h0, rfl, rfl⟩ | ⟨b, pad, rfl, rfl, h1, h2, h3, h4⟩⟩ | ⟨h0, rfl, rfl⟩
  · have hL0 : L = [] := by simpa using h0
    subst hL0
    have hn53 : ¬ b5 = b3 := by simp [Store.keys] at hnd; exact fun e => hnd e.symm
    have hn35 : ¬ b3 = b5 := fun e => hn53 e.symm
    cases hc : called x s with
    | false =>
      rw [hc] at hC hL1
      (repeat' (first | (with_reducible refine And.intro (by omega) ?_) | (with_reducible refine CALL_pure (hC) ?_) | simp -dsimp -implicitDefEqProofs only [EVz, seval, ↓reduceIte, reduceCtorEq, EV6, EV7, hn53, hn35, List.map_cons, List.getD_cons_zero] | fail))
      all_goals exact RET.mk' (SubN.refl _) ⟨_, [], .inl (by rw [hL1]; exact ⟨base, 0, rfl, .inl ⟨rfl, rfl, rfl⟩⟩), rfl⟩
    | true =>
      rw [hc] at hC hL1
      have hem : emptyS (.slice base 0 0) := by
        cases base with
        | none => exact .inl rfl
        | some a => exact .inr ⟨a, rfl⟩
      obtain ⟨z0, hz0⟩ : ∃ z0 : List AV, z0 = [.int .i64 0, .int .i64 0, .int .i64 0, .int .i64 0, .str [], .nil, .nil, .nil] := ⟨_, rfl⟩
      have hzl : z0.length = 8 := by rw [hz0]; rfl
      have hdr : ∀ pad' : List AV, ([z0].flatten ++ pad').drop 8 = pad' := fun pad' => by rw [← hzl]; simp
      have hln : ∀ pad' : List AV, 8 ≤ ([z0].flatten ++ pad').length := fun pad' => by rw [List.length_append]; simp [hzl]
      (repeat' (first | (with_reducible refine And.intro (by omega) ?_) | (with_reducible refine CALL_pure (hC) ?_) | simp -dsimp -implicitDefEqProofs only [EVz, seval, ↓reduceIte, reduceCtorEq, EV6, EV7, hn53, hn35, List.map_cons, List.getD_cons_zero, erase_none, hdr, hne] | simp -dsimp -implicitDefEqProofs only [EVz, seval, ↓reduceIte, reduceCtorEq, EV6, EV7, hn53, hn35, List.map_cons, List.getD_cons_zero, erase_none, hdr] | (with_reducible intro blk hblk; (try (have hnx := hblk; simp only [EVK] at hnx; (have hne := hnx)))) | (with_reducible refine both_case ?_ ?_) | (refine ⟨[z0], rfl, (by simp [hzl]), (by simp [hz0]), ?_⟩) | (refine RAW_appendZ (e := 27) (e' := 27) (sz := 8) (bytes := 120) (rows := []) (ys := [z0]) (g := none) (xv := .sc (.slice base 0 0)) (by kernel_rfl) (by kernel_rfl) (by kernel_rfl) (by kernel_rfl) (by decide) (by decide) rfl (.inl ⟨rfl, rfl, .inr ⟨_, rfl, hem⟩⟩) ⟨rfl, rfl⟩ (by simp) (fun _ h => by cases h) (fun b' cap' pad' hb g1 g2 g3 g4 => ?_)) | ((simp only [EVK, erase_none] at hb; have hne := And.intro hb hne)) | (refine ⟨hln _, _, _, Weak.rfl' _ _, ?_⟩) | fail))
      all_goals
        refine RET.mk' (σ' := [(b3, AObj.cells 28 [.lst 2 ((s :: rs).map Stp.cs)]), (b5, AObj.cells 25 [.sc (.slice (some ⟨b', 0, none⟩) 1 cap')])] ++ [(b', AObj.cells 27 (x.cs ++ pad'))]) (SubN.trans (SubN.perm (List.perm_append_comm (l₁ := [_, _]) (l₂ := [_]))) (SubN.cons (SubN.tail (SubN.refl _) _) _)) ⟨_, _, .inl ?_, rfl⟩
        have := OpenL.mk (e := 27) (sz := 8) (b := b') (rows := [x.cs]) (pad := pad') (n := 1) (cap := cap') rfl g1 g2 (by simp [U.cs_len]) (by rw [← g4]; simp [U.cs_len, hzl])
        rw [hL1]
        simpa using this
  · have hn53 : ¬ b5 = b3 := by simp [Store.keys] at hnd; exact fun e => hnd.1.1 e.symm
    have hn35 : ¬ b3 = b5 := fun e => hn53 e.symm
    have hn3b : ¬ b3 = b := by simp [Store.keys] at hnd; exact hnd.1.2
    have hn5b : ¬ b5 = b := by simp [Store.keys] at hnd; exact hnd.2
    have hnb3 : ¬ b = b3 := fun e => hn3b e.symm
    have hnb5 : ¬ b = b5 := fun e => hn5b e.symm
    rw [List.length_map] at h1
    cases hc : called x s with
    | false =>
      rw [hc] at hC hL1
      (repeat' (first | (with_reducible refine And.intro (by omega) ?_) | (with_reducible refine CALL_pure (hC) ?_) | simp -dsimp -implicitDefEqProofs only [EVz, seval, ↓reduceIte, reduceCtorEq, EV6, EV7, hn53, hn35, hn3b, hn5b, hnb3, hnb5, List.map_cons, List.getD_cons_zero, List.length_map] | fail))
      all_goals exact RET.mk' (SubN.refl _) ⟨_, [(b, _)], .inl (by rw [hL1]; exact OpenL.mk (by simp) (by rw [List.length_map]; exact h1) h2 h3 h4), rfl⟩
    | true =>
      rw [hc] at hC hL1
      obtain ⟨z0, hz0⟩ : ∃ z0 : List AV, z0 = [.int .i64 0, .int .i64 0, .int .i64 0, .int .i64 0, .str [], .nil, .nil, .nil] := ⟨_, rfl⟩
      have hzl : z0.length = 8 := by rw [hz0]; rfl
      obtain ⟨R0, hR0⟩ : ∃ R0, L.map U.cs = R0 := ⟨_, rfl⟩
      have hRl : R0.length = L.length := by rw [← hR0, List.length_map]
      rw [hR0] at h3 h4
      have hfl := flat_len R0 h3
      have hsp : ∀ pad' : List AV, splice ((R0 ++ [z0]).flatten ++ pad') (0 + R0.length * 8) x.cs = (R0 ++ [x.cs]).flatten ++ pad' := fun pad' => by
        rw [List.flatten_append, List.flatten_append, List.append_assoc, List.append_assoc]
        simpa using splice_mid (A := R0.flatten) (B := z0) (B' := x.cs) (C := pad') (o := R0.length * 8) (by rw [hfl]) (by rw [U.cs_len, hzl])
      have hln : ∀ pad' : List AV, 0 + R0.length * 8 + 8 ≤ ((R0 ++ [z0]).flatten ++ pad').length := fun pad' => by rw [List.length_append, List.flatten_append, List.length_append, hfl]; simp [hzl]
      have hll : (R0 ++ [z0]).length = R0.length + 1 := by rw [List.length_append]; rfl
      (repeat' (first | (with_reducible refine And.intro (by omega) ?_) | (with_reducible refine CALL_pure (hC) ?_) | simp -dsimp -implicitDefEqProofs only [EVz, seval, ↓reduceIte, reduceCtorEq, EV6, EV7, hn53, hn35, hn3b, hn5b, hnb3, hnb5, List.map_cons, List.getD_cons_zero, List.length_map, erase_cons, erase_nil, hsp, hll, hR0, hne] | simp -dsimp -implicitDefEqProofs only [EVz, seval, ↓reduceIte, reduceCtorEq, EV6, EV7, hn53, hn35, hn3b, hn5b, hnb3, hnb5, List.map_cons, List.getD_cons_zero, List.length_map, erase_cons, erase_nil, hsp, hll, hR0] | (with_reducible intro blk hblk; (try (have hnx := hblk; simp only [EVK] at hnx; (have hne := hnx)))) | (with_reducible refine both_case ?_ ?_) | (with_reducible refine same_case ?_) | (refine ⟨[z0], rfl, (by simp [hzl]), (by simp [hz0]), ?_⟩) | (refine RAW_appendZ (e := 27) (e' := 27) (sz := 8) (bytes := 120) (rows := R0) (ys := [z0]) (g := some b) (xv := .sc (.slice (some ⟨b, 0, none⟩) R0.length cap)) (by kernel_rfl) (by kernel_rfl) (by kernel_rfl) (by kernel_rfl) (by decide) (by decide) rfl (.inr ⟨b, cap, pad, rfl, rfl, (by simp [Store.get, hne, hn3b, hn5b]), h3, h4, by omega, h2⟩) ⟨rfl, rfl⟩ (by rw [hRl]; simp; omega) (fun _ h => by cases h) (fun b' cap' pad' hb g1 g2 g3 g4 => ?_)) | ((simp [Store.keys, Store.erase, hne, hn3b, hn5b] at hb; have hne := And.intro hb hne)) | fail))
      all_goals
        refine RET.mk' (σ' := [(b3, AObj.cells 28 [.lst 2 ((s :: rs).map Stp.cs)]), (b5, AObj.cells 25 [.sc (.slice (some ⟨b', 0, none⟩) (R0.length + 1) cap')])] ++ [(b', AObj.cells 27 ((R0 ++ [x.cs]).flatten ++ pad'))]) (SubN.trans (SubN.perm (List.perm_append_comm (l₁ := [_, _]) (l₂ := [_]))) (SubN.cons (SubN.tail (SubN.refl _) _) _)) ⟨_, _, .inl ?_, rfl⟩
        have hrow : ∀ r ∈ R0 ++ [x.cs], r.length = 8 := fun r hr => by
          rcases List.mem_append.1 hr with hr | hr
          · exact h3 r hr
          · simp only [List.mem_singleton] at hr; subst hr; exact U.cs_len x
        have := OpenL.mk (e := 27) (sz := 8) (b := b') (rows := R0 ++ [x.cs]) (pad := pad') (n := R0.length + 1) (cap := cap') (by simp) (by simpa using g1) g2 hrow (by rw [← g4]; simp [U.cs_len, hzl])
        rw [hL1]
        simpa [hR0] using this
  · subst h0
    have hn53 : ¬ b5 = b3 := by simp [Store.keys] at hnd; exact fun e => hnd e.symm
    have hn35 : ¬ b3 = b5 := fun e => hn53 e.symm
    cases hc : called x s with
    | false =>
      rw [hc] at hC hL1
      (repeat' (first | (with_reducible refine And.intro (by omega) ?_) | (with_reducible refine CALL_pure (hC) ?_) | simp -dsimp -implicitDefEqProofs only [EVz, seval, ↓reduceIte, reduceCtorEq, EV6, EV7, hn53, hn35, List.map_cons, List.getD_cons_zero] | fail))
      all_goals exact RET.mk' (SubN.refl _) ⟨_, [], .inr ⟨by rw [hL1]; rfl, rfl, rfl⟩, rfl⟩
    | true =>
      rw [hc] at hC hL1
      obtain ⟨z0, hz0⟩ : ∃ z0 : List AV, z0 = [.int .i64 0, .int .i64 0, .int .i64 0, .int .i64 0, .str [], .nil, .nil, .nil] := ⟨_, rfl⟩
      have hzl : z0.length = 8 := by rw [hz0]; rfl
      have hdr : ∀ pad' : List AV, ([z0].flatten ++ pad').drop 8 = pad' := fun pad' => by rw [← hzl]; simp
      have hln : ∀ pad' : List AV, 8 ≤ ([z0].flatten ++ pad').length := fun pad' => by rw [List.length_append]; simp [hzl]
      (repeat' (first | (with_reducible refine And.intro (by omega) ?_) | (with_reducible refine CALL_pure (hC) ?_) | simp -dsimp -implicitDefEqProofs only [EVz, seval, ↓reduceIte, reduceCtorEq, EV6, EV7, hn53, hn35, List.map_cons, List.getD_cons_zero, erase_none, hdr, hne] | simp -dsimp -implicitDefEqProofs only [EVz, seval, ↓reduceIte, reduceCtorEq, EV6, EV7, hn53, hn35, List.map_cons, List.getD_cons_zero, erase_none, hdr] | (with_reducible intro blk hblk; (try (have hnx := hblk; simp only [EVK] at hnx; (have hne := hnx)))) | (with_reducible refine both_case ?_ ?_) | (refine ⟨[z0], rfl, (by simp [hzl]), (by simp [hz0]), ?_⟩) | (refine RAW_appendZ (e := 27) (e' := 27) (sz := 8) (bytes := 120) (rows := []) (ys := [z0]) (g := none) (xv := .nil) (by kernel_rfl) (by kernel_rfl) (by kernel_rfl) (by kernel_rfl) (by decide) (by decide) rfl (.inl ⟨rfl, rfl, .inl rfl⟩) ⟨rfl, rfl⟩ (by simp) (fun _ h => by cases h) (fun b' cap' pad' hb g1 g2 g3 g4 => ?_)) | ((simp only [EVK, erase_none] at hb; have hne := And.intro hb hne)) | (refine ⟨hln _, _, _, Weak.rfl' _ _, ?_⟩) | fail))
      all_goals
        refine RET.mk' (σ' := [(b3, AObj.cells 28 [.lst 2 ((s :: rs).map Stp.cs)]), (b5, AObj.cells 25 [.sc (.slice (some ⟨b', 0, none⟩) 1 cap')])] ++ [(b', AObj.cells 27 (x.cs ++ pad'))]) (SubN.trans (SubN.perm (List.perm_append_comm (l₁ := [_, _]) (l₂ := [_]))) (SubN.cons (SubN.tail (SubN.refl _) _) _)) ⟨_, _, .inl ?_, rfl⟩
        have := OpenL.mk (e := 27) (sz := 8) (b := b') (rows := [x.cs]) (pad := pad') (n := 1) (cap := cap') rfl g1 g2 (by simp [U.cs_len]) (by rw [← g4]; simp [U.cs_len, hzl])
        rw [hL1]
        simpa using this
end
end Go.Av
end

section
namespace Go.Av
open Go Go.RowKit Go.Proofs
set_option linter.unusedSimpArgs false
set_option linter.unusedVariables false

section
variable (G : Glob)
set_option maxHeartbeats 2000000 in
theorem f136 (u : U) (p : List Stp) (ht : u.Tame) (hN : u.flat.length ≤ 1024) (hp : p.length < 1000000) : Pure G Tryz.prog 136 [.agg u.cs, .lst 2 (p.map Stp.cs)] (.lst 8 ((found u p).map U.cs)) := by
  have hM := f67 G p hp
  refine Pure.w c136 fun R hR => ?_
  unfold s136 r136
  unfold found at hR
  cases hok : addrOk p with
  | false =>
    rw [hok, if_pos rfl] at hR
    rw [hok] at hM
    (repeat' (first | (with_reducible refine CALL_pure (hM) ?_) | simp -dsimp -implicitDefEqProofs only [EVz, seval, ↓reduceIte, reduceCtorEq, EV6, EV7, hne] | simp -dsimp -implicitDefEqProofs only [EVz, seval, ↓reduceIte, reduceCtorEq, EV6, EV7] | (with_reducible intro blk hblk; (try (have hnx := hblk; simp only [EVK] at hnx; (have hne := hnx)))) | fail))
    exact hR _ _ (Or.inl (Or.inr rfl))
  | true =>
    rw [hok] at hM hR
    simp only [Bool.true_eq_false, if_false] at hR
    by_cases h0 : p = []
    · subst h0
      simp only [List.map_nil] at hM ⊢
      (repeat' (first | (with_reducible refine CALL_pure (hM) ?_) | simp -dsimp -implicitDefEqProofs only [EVz, seval, ↓reduceIte, reduceCtorEq, EV6, EV7, hne] | simp -dsimp -implicitDefEqProofs only [EVz, seval, ↓reduceIte, reduceCtorEq, EV6, EV7] | (with_reducible intro blk hblk; (try (have hnx := hblk; simp only [EVK] at hnx; first | (have hne := And.intro hnx hne) | (have hne := hnx)))) | (refine ⟨[u.cs], rfl, (by simp [U.cs_len]), (by simp), ?_⟩) | fail))
      exact hR _ _ (Or.inl (Or.inr ⟨rfl, rfl⟩))
    · obtain ⟨s, r, hpe⟩ : ∃ s r, p = s :: r := by cases p <;> simp_all
      have hR2 : ∀ x σ, AVle x (.lst 8 ((r.foldl stepDown (found0 u s)).map U.cs)) → RET x σ R := by
        rw [hpe] at hR
        exact hR
      clear hR
      have hlen : p.length = r.length + 1 := by rw [hpe]; simp
      have hg0 : (p.map Stp.cs).getD 0 [] = s.cs := by rw [hpe]; rfl
      have e0 : decide ((p.length : Int) = 0) = false := decide_eq_false (by omega)
      have hd1 : List.drop 1 (List.take p.length (p.map Stp.cs)) = r.map Stp.cs := by rw [List.take_of_length_le (by simp), hpe]; rfl
      have hrl : (r.map Stp.cs).length = r.length := by simp
      have hB := f131 G s.kind s.label
      have hN2 : u.flat.length * u.flat.length ≤ 1048576 := Nat.mul_le_mul hN hN
      have hfl := found0_msr u s
      have hfl2 := msr_len (found0 u s)
      cases hb : bookStp s
      case' true =>
        have hb2 : (decide (s.kind = 0) && decide (s.label = [])) = true := hb
        rw [hb2] at hB
        have hf0 : found0 u s = [u] := by unfold found0; rw [hb]; rfl
        (repeat' (first | (with_reducible refine And.intro (by omega) ?_) | (with_reducible refine CALL_pure (hM) ?_) | (with_reducible refine CALL_pure (hB) ?_) | simp -dsimp -implicitDefEqProofs only [EVz, seval, ↓reduceIte, reduceCtorEq, EV6, EV7, hg0, e0, hd1, hne] | simp -dsimp -implicitDefEqProofs only [EVz, seval, ↓reduceIte, reduceCtorEq, EV6, EV7, hg0, e0, hd1] | (with_reducible intro blk hblk; (try (have hnx := hblk; simp only [EVK] at hnx; first | (have hne := And.intro hnx hne) | (have hne := hnx)))) | (refine ⟨[u.cs], rfl, (by simp [U.cs_len]), (by simp), ?_⟩) | fail))
        rename_i b3 _ _ _ b5 _ _ _
        have hWk : ∀ env, Weak G env [(blk, .tok 27 8), (b5, .cells 25 [.own (some blk) 27 8 [u.cs]]), (b3, .cells 28 [.lst 2 (p.map Stp.cs)])] env [(b5, .cells 25 [.lst 8 ((found0 u s).map U.cs)])] := fun env =>
          Weak.trans (Weak.sub (SubN.tail (SubN.cons (SubN.nil _) _) _)) (Weak.st ⟨rfl, rfl, ⟨.inr ⟨rfl, by rw [hf0]; rfl⟩, trivial⟩, trivial⟩)
        clear hblk hnx hne
      case' false =>
        have hb2 : (decide (s.kind = 0) && decide (s.label = [])) = false := hb
        rw [hb2] at hB
        have hf0 : found0 u s = u.flat.filter fun x => called x s := by unfold found0; rw [hb]; rfl
        (repeat' (first | (with_reducible refine And.intro (by omega) ?_) | (with_reducible refine CALL_pure (hM) ?_) | (with_reducible refine CALL_pure (hB) ?_) | simp -dsimp -implicitDefEqProofs only [EVz, seval, ↓reduceIte, reduceCtorEq, EV6, EV7, hg0, e0, hd1, hne] | simp -dsimp -implicitDefEqProofs only [EVz, seval, ↓reduceIte, reduceCtorEq, EV6, EV7, hg0, e0, hd1] | (with_reducible intro blk hblk; (try (have hnx := hblk; simp only [EVK] at hnx; first | (have hne := And.intro hnx hne) | (have hne := hnx)))) | fail))
        rename_i b3 _ _ _
        generalize hbe : blk = b5 at *
        refine CALL_specN [(b3, _), (b5, _)] [] (f187 G (.func (.func 188) #[] #[.pointer (some ⟨b3, 0, none⟩), .pointer (some ⟨b5, 0, none⟩)]) u.flat.length (fun pre σ => St1 b3 b5 (s :: r) s pre σ) ht.2 u ht (fun x hx pre σ hσ hp => ⟨_, #[], #[_, _], rfl, by simpa [AV.ofValue, AV.ofOne] using f188 G b3 b5 s r x pre (by have := ht.2; omega) σ hσ⟩) [] _ ⟨.nil, [], .inr ⟨rfl, rfl, rfl⟩, by rw [← hpe]; rfl⟩ (by simp)).v (AVleA.rfl' _) (SubN.perm (List.Perm.swap _ _ _)) ?_
        rintro r' σ' hSt' hnd'
        obtain ⟨v, κ, ho, rfl⟩ := hSt'
        rw [List.nil_append] at ho
        rw [← hpe]
        have q1 : ¬ b3 = b5 := fun e => hne.1 e.symm
        (repeat' (first | (with_reducible refine And.intro (by omega) ?_) | simp -dsimp -implicitDefEqProofs only [EVz, seval, ↓reduceIte, reduceCtorEq, EV6, EV7, hd1, q1, hne] | fail))
        have hWk : ∀ env, Weak G env ((b3, .cells 28 [.lst 2 (p.map Stp.cs)]) :: (b5, .cells 25 [v]) :: κ) env [(b5, .cells 25 [.lst 8 ((found0 u s).map U.cs)])] := fun env => by
          rw [hf0]
          rcases ho with ho | ⟨ho, rfl, rfl⟩
          · exact Weak.frz (cs := [v]) (rest := []) (κ := κ) ⟨.inr ⟨27, 8, _, κ, ho, fun q hq => hq, rfl⟩, trivial⟩ (SubN.tail (SubN.refl _) _)
          · rw [ho]
            exact Weak.trans (Weak.sub (SubN.tail (SubN.refl _) _)) (Weak.st ⟨rfl, rfl, ⟨.inr rfl, trivial⟩, trivial⟩)
        clear hnd' hne hblk hnx
      all_goals
        refine W_list (ι := List U) r (fun i rr l => r.foldl stepDown (found0 u s) = rr.foldl stepDown l ∧ msr l ≤ 1048576) (fun i l => [(5, .sc (.pointer (some ⟨b5, 0, none⟩))), (33, .lst 2 (r.map Stp.cs)), (34, .int .i64 r.length), (35, .int .i64 i)]) (fun i l => [(b5, .cells 25 [.lst 8 (l.map U.cs)])]) (found0 u s) ⟨rfl, by omega⟩ (hWk _) (by omega) (fun i y rr l hok2 hx hw => ?_) (fun l hok2 hn => ?_)
        · have hll := msr_len l
          clear hWk
          (repeat' (first | simp -dsimp -implicitDefEqProofs only [EVz, seval, ↓reduceIte, reduceCtorEq, EV6, EV7, hx.yes, hx.le0, hx.lt', hx.row, hw, hx.get, hne] | (with_reducible intro blk hblk; (try (have hnx := hblk; simp only [EVK] at hnx; (have hne := And.intro hnx hne)))) | fail))
          have q1 : ¬ blk = b5 := hnx
          have q2 : ¬ b5 = blk := fun e => q1 e.symm
          generalize hb7 : blk = b7 at *
          clear hne hblk hnx
          obtain ⟨κ, hκ⟩ : ∃ κ : Store, κ = [(b7, .cells 100 [.int .i64 y.kind, .str y.label]), (b5, .cells 25 [.lst 8 (l.map U.cs)])] := ⟨_, rfl⟩
          have hndκ : (Store.keys κ).Nodup := by rw [hκ]; simp [Store.keys, q1]
          refine W_list (ι := Option Nat) l (fun j rl c => ∀ b, c = some b → b ∉ Store.keys κ) (fun j c => [(5, .sc (.pointer (some ⟨b5, 0, none⟩))), (7, .sc (.pointer (some ⟨b7, 0, none⟩))), (8, .own c 27 8 ((stepDown (l.take j) y).map U.cs)), (33, .lst 2 (r.map Stp.cs)), (34, .int .i64 r.length), (35, .int .i64 i), (39, .lst 8 (l.map U.cs)), (40, .int .i64 l.length), (41, .int .i64 j)]) (fun j c => κ ++ tokS c 27 ((stepDown (l.take j) y).length * 8)) none (by intro b h; cases h) (Weak.of (by simp [EnvLe, Env.get, AVle, AVle1, stepDown]) (by rw [hκ]; exact SubN.refl _)) (by omega) (fun j z rl c hok3 hz hwz => ?_) (fun c hok3 hnz => ?_)
          · have hsn : stepDown (l.take (j + 1)) y = stepDown (l.take j) y ++ z.kids.filter fun k => called k y := by rw [hz.take, stepDown_snoc]
            have hsl : (stepDown (l.take (j + 1)) y).length ≤ 1048576 := by
              have h1 := msr_len (stepDown (l.take (j + 1)) y)
              have h2 := msr_step y (l.take (j + 1))
              have h3 : msr l = msr (l.take (j + 1)) + msr (l.drop (j + 1)) := by rw [← msr_app, List.take_append_drop]
              omega
            have hzk : z.kids.length ≤ 1048576 := by
              have h1 := msr_len z.kids
              have h2 := msr_flats z.kids
              have h3 : z.flat.length = 1 + (U.flats z.kids).length := by rw [U.flat_eq, List.length_cons]; omega
              have h4 : msr l = msr (l.take (j + 1)) + msr (l.drop (j + 1)) := by rw [← msr_app, List.take_append_drop]
              have h5 : msr (l.take (j + 1)) = msr (l.take j) + z.flat.length := by rw [hz.take, msr_app, msr_cons, msr_nil]; omega
              omega
            rw [hsn, List.length_append] at hsl
            rw [hκ]
            (repeat' (first | simp -dsimp -implicitDefEqProofs only [EVz, seval, ↓reduceIte, reduceCtorEq, EV6, EV7, hz.yes, hz.le0, hz.lt', hz.row, hwz, hz.get, q1, q2, hne] | (with_reducible intro blk hblk; (try (have hnx := hblk; simp only [EVK] at hnx; (have hne := And.intro hnx hne)))) | fail))
            have hZ0 := zPre_zero l y z.kids j
            have hZn : zPre l y z.kids j z.kids.length = stepDown (l.take (j + 1)) y := by rw [hsn, zPre_full]
            refine W_list (ι := Option Nat) z.kids (fun k rk c => ∀ b, c = some b → b ∉ Store.keys κ) (fun k c => [(5, .sc (.pointer (some ⟨b5, 0, none⟩))), (7, .sc (.pointer (some ⟨b7, 0, none⟩))), (8, .own c 27 8 ((zPre l y z.kids j k).map U.cs)), (33, .lst 2 (r.map Stp.cs)), (34, .int .i64 r.length), (35, .int .i64 i), (39, .lst 8 (l.map U.cs)), (40, .int .i64 l.length), (41, .int .i64 j), (46, .lst 8 (z.kids.map U.cs)), (47, .int .i64 z.kids.length), (48, .int .i64 k)]) (fun k c => κ ++ tokS c 27 ((zPre l y z.kids j k).length * 8)) c hok3 (Weak.of (by simp [EnvLe, Env.get, AVle, AVle1, hZ0]) (by rw [hκ]; simp only [hZ0]; exact SubN.tail (SubN.refl _) _)) (Nat.lt_of_le_of_lt hzk (by decide)) (fun k q rk c hok4 hq hwq => ?_) (fun c hok4 hnq => ?_)
            · have hA := f189 G q y
              have hfk : ((z.kids.take k).filter fun k => called k y).length ≤ k := Nat.le_trans (List.length_filter_le _ _) (by rw [List.length_take]; omega)
              have hkl := hq.lt
              have hA1 : (stepDown (l.take j) y).length ≤ 1048576 := Nat.le_trans (Nat.le_add_right _ _) hsl
              have hB1 : ((z.kids.take k).filter fun k => called k y).length ≤ 1048576 := Nat.le_trans hfk (Nat.le_trans (Nat.le_of_lt hkl) hzk)
              have hZl : (zPre l y z.kids j k).length ≤ 2097152 := by
                rw [zPre_len]
                exact Nat.add_le_add hA1 hB1
              have hcc : called q y = true ∨ called q y = false := by
                cases called q y
                · exact .inr rfl
                · exact .inl rfl
              rcases hcc with hc | hc
              · have ef : zPre l y z.kids j (k + 1) = zPre l y z.kids j k ++ [q] := zPre_yes hq hc
                rw [hc] at hA
                clear hfl hfl2 hN2 hsl hzk hsn hll hZ0 hZn hN hfk hp hf0 hA1 hB1
                rw [hκ]
                (repeat' (first | (with_reducible refine CALL_pure (hA) ?_) | simp -dsimp -implicitDefEqProofs only [EVz, seval, ↓reduceIte, reduceCtorEq, EV6, EV7, hq.yes, hq.le0, hq.lt', hq.row, hwq, hq.get, q1, q2, hne] | (with_reducible intro blk hblk; (try (have hnx := hblk; simp only [EVK] at hnx; (have hne := And.intro hnx hne)))) | fail))
                rename_i b12 hb12 _ _
                refine ⟨[q.cs], rfl, by simp [U.cs_len], by simp, ?_⟩
                refine app_kept2 (sz := 8) (bytes := 120) (rows := (zPre l y z.kids j k).map U.cs) (ys := [q.cs]) (m := (zPre l y z.kids j k).length * 8) [(b7, .cells 100 [.int .i64 y.kind, .str y.label]), (b5, .cells 25 [.lst 8 (l.map U.cs)])] hb12 hblk (hκ ▸ hok4) (by rw [List.length_map]) (hκ ▸ hndκ) (by rw [List.length_map]; simp; omega) (fun gn hgn => ?_)
                refine LK_next hq gn hgn ?_
                rw [ef, List.map_append, List.length_append]
                simp only [List.length_map, List.map_cons, List.map_nil, List.length_append, List.length_cons, List.length_nil]
                exact Weak.rfl' _ _
              · have ef : zPre l y z.kids j (k + 1) = zPre l y z.kids j k := zPre_not hq hc
                rw [hc] at hA
                clear hfl hfl2 hN2 hsl hzk hsn hll hZ0 hZn hN hfk hp hf0 hA1 hB1
                rw [hκ]
                (repeat' (first | (with_reducible refine CALL_pure (hA) ?_) | simp -dsimp -implicitDefEqProofs only [EVz, seval, ↓reduceIte, reduceCtorEq, EV6, EV7, hq.yes, hq.le0, hq.lt', hq.row, hwq, hq.get, q1, q2, hne] | (with_reducible intro blk hblk; (try (have hnx := hblk; simp only [EVK] at hnx; (have hne := And.intro hnx hne)))) | fail))
                refine LK_next hq c (hκ ▸ hok4) ?_
                rw [ef]
                exact Weak.sub (SubN.tail (SubN.refl _) _)
            · (try simp -dsimp -implicitDefEqProofs only [EVz, seval, ↓reduceIte, reduceCtorEq, EV6, EV7, hnq, hwz])
              refine LK_next hz c (hκ ▸ hok4) ?_
              rw [hZn, hκ]
              exact Weak.rfl' _ _
          · rw [hκ]
            (repeat' (simp -dsimp -implicitDefEqProofs only [EVz, seval, ↓reduceIte, reduceCtorEq, EV6, EV7, hnz, hw, q1, q2, hne]))
            refine LK_next hx (stepDown l y) ⟨hok2.1, Nat.le_trans (msr_step y l) hok2.2⟩ ?_
            rw [List.take_length]
            refine Weak.trans (Weak.sub (σ' := [(b5, .cells 25 [.own c 27 8 ((stepDown l y).map U.cs)])]) (SubN.tail (SubN.cons (SubN.nil _) _) _)) (Weak.st ⟨rfl, rfl, ⟨.inr ⟨rfl, rfl⟩, trivial⟩, trivial⟩)
        · (repeat' (simp -dsimp -implicitDefEqProofs only [EVz, seval, ↓reduceIte, reduceCtorEq, EV6, EV7, hn, hne]))
          exact hR2 _ _ (Or.inl (Or.inl (by rw [hok2.1]; rfl)))

theorem f71 (u : U) (p : List Stp) (ht : u.Tame) (hN : u.flat.length ≤ 1024) (hp : p.length < 1000000) : Pure G Tryz.prog 71 [.agg u.cs, .lst 2 (p.map Stp.cs)] (.lst 3 (((found u p).map U.id).map Idd.cs)) := by
  have hF := f136 G u p ht hN hp
  have hl := found_len u p
  have hN2 : u.flat.length * u.flat.length ≤ 1048576 := Nat.mul_le_mul hN hN
  obtain ⟨l, hle⟩ : ∃ l, found u p = l := ⟨_, rfl⟩
  rw [hle] at hF hl ⊢
  refine Pure.w c71 fun R hR => ?_
  unfold s71 r71
  have hl2 : l.length ≤ 1048576 := Nat.le_trans hl hN2
  clear hl hN2 hN
  (repeat' (first | (with_reducible refine CALL_pure (hF) ?_) | simp -dsimp -implicitDefEqProofs only [EVz, seval, ↓reduceIte, reduceCtorEq, EV6, EV7] | fail))
  refine W_list (ι := Option Nat) l (fun i r c => True) (fun i c => [(5, .own c 23 3 ((l.take i).map fun x => x.id.cs)), (10, .lst 8 (l.map U.cs)), (11, .int .i64 l.length), (12, .int .i64 i)]) (fun i c => tokS c 23 (i * 3)) none trivial (Weak.of (by simp [EnvLe, Env.get, AVle, AVle1]) (SubN.refl _)) (by omega) (fun i x r c hok hx hw => ?_) (fun c hok hn => ?_)
  · have hi := hx.lt
    (repeat' (first | simp -dsimp -implicitDefEqProofs only [EVz, seval, ↓reduceIte, reduceCtorEq, EV6, EV7, hx.yes, hx.le0, hx.lt', hx.row, hw, hx.get] | (with_reducible intro blk hblk; (try (have hnx := hblk; simp only [EVK] at hnx; (have hne := hnx)))) | fail))
    refine app_row (n := i) (m' := (i + 1) * 3) (by exact tok_get_cons (by assumption)) (by rw [List.length_map, List.length_take]; omega) rfl rfl rfl (by assumption) (by omega) (fun gn => ?_)
    refine LK_next hx gn trivial ?_
    simp only [hx.take, List.map_append, List.map_cons, List.map_nil]
    exact Weak.rfl' _ _
  · (repeat' (simp -dsimp -implicitDefEqProofs only [EVz, seval, ↓reduceIte, reduceCtorEq, EV6, EV7, hn]))
    exact hR _ _ (Or.inl (Or.inr ⟨rfl, by rw [List.take_length, List.map_map]; rfl⟩))

theorem f39 (u : U) (p : List Stp) (ht : u.Tame) (hN : u.flat.length ≤ 1024) (hp : p.length < 1000000) : Pure G Tryz.prog 39 [.agg u.cs, .lst 2 (p.map Stp.cs)] (oneAV u p) := by
  have hU := f71 G u p ht hN hp
  refine Pure.w c39 fun R hR => ?_
  unfold s39 r39
  unfold oneAV one at hR
  have hl : (found u p).length ≤ 1048576 := Nat.le_trans (found_len u p) (Nat.mul_le_mul hN hN)
  generalize found u p = l at *
  rcases l with _ | ⟨x, _ | ⟨y, l⟩⟩
  · simp only [List.map_nil] at hU hR
    (repeat' (first | (with_reducible refine CALL_pure (hU) ?_) | simp -dsimp -implicitDefEqProofs only [EVz, seval, ↓reduceIte, reduceCtorEq, EV6, EV7, hne] | simp -dsimp -implicitDefEqProofs only [EVz, seval, ↓reduceIte, reduceCtorEq, EV6, EV7] | (with_reducible intro blk hblk; (try (have hnx := hblk; simp only [EVK] at hnx; (have hne := hnx)))) | fail))
    all_goals exact hR _ _ (Or.inl (Or.inl rfl))
  · simp only [List.map_cons, List.map_nil, Idd.cs] at hU hR
    (repeat' (first | (with_reducible refine CALL_pure (hU) ?_) | simp -dsimp -implicitDefEqProofs only [EVz, seval, ↓reduceIte, reduceCtorEq, EV6, EV7, hne] | simp -dsimp -implicitDefEqProofs only [EVz, seval, ↓reduceIte, reduceCtorEq, EV6, EV7] | (with_reducible intro blk hblk; (try (have hnx := hblk; simp only [EVK] at hnx; (have hne := hnx)))) | fail))
    all_goals exact hR _ _ (Or.inl (Or.inl rfl))
  · simp only [List.map_cons, Idd.cs] at hU hR
    (repeat' (first | (with_reducible (refine split_case (fun h => ?_) (fun h => ?_)) <;> (try simp only [Da, Db, Dc, Dw, De, Df, Dg, Dh] at h)) | (with_reducible refine And.intro (by omega) ?_) | (with_reducible refine CALL_pure (hU) ?_) | simp -dsimp -implicitDefEqProofs only [EVz, seval, ↓reduceIte, reduceCtorEq, EV6, EV7, hne] | simp -dsimp -implicitDefEqProofs only [EVz, seval, ↓reduceIte, reduceCtorEq, EV6, EV7] | (with_reducible intro blk hblk; (try (have hnx := hblk; simp only [EVK] at hnx; (have hne := hnx)))) | (exfalso; omega) | fail))
    all_goals exact hR _ _ (Or.inl (Or.inl rfl))
end
end Go.Av
end

section
namespace Go.Av
open Go Go.RowKit Go.Proofs
set_option linter.unusedSimpArgs false
set_option linter.unusedVariables false

section
variable (G : Glob)
end
end Go.Av
end

section
namespace Go.Av
open Go Go.RowKit Go.Proofs
set_option linter.unusedSimpArgs false
set_option linter.unusedVariables false

section
variable (G : Glob)
def OwnW (l : List Wd) (r : AV) (σ : Store) : Prop := ∃ g, r = .own g 64 4 (l.map Wd.cs) ∧ σ = tokS g 64 (l.length * 4)
end
theorem gaps_count {n len : Nat} (hl : 1 ≤ len) : ∀ {ps : List Nat} {s : Nat}, s ≤ n → Gaps n len s ps → s + ps.length ≤ n
  | [], s, h, _ => by simpa using h
  | p :: ps, s, h, ⟨h1, h2, h3⟩ => by
    have := gaps_count hl h2 h3
    rw [List.length_cons]; omega
def editAV (q : List Wd × Int) : AV := .tup [.lst 4 (q.1.map Wd.cs), .int .i64 q.2]
section
variable (G : Glob)
end
end Go.Av
end
