/-
  LINT, 18: a function value asked at every node of a tree.
-/
import Derived.Test.YtedcgagodcfgmaaGreatDoorXL17toXFrM
namespace Go.Av
open Go Go.RowKit Go.Proofs
set_option linter.unusedSimpArgs false
set_option linter.unusedVariables false

/-- The nodes that are seen: up to the first that fails. -/
def cut (p : U → Bool) : List U → List U
  | [] => []
  | x :: l => if p x then x :: cut p l else [x]
theorem cut_all {p : U → Bool} : ∀ {l : List U}, l.all p = true → cut p l = l
  | [], _ => rfl
  | x :: l, h => by
    simp only [List.all_cons, Bool.and_eq_true] at h
    rw [cut, if_pos h.1, cut_all h.2]
theorem cut_app {p : U → Bool} {l m : List U} (h : l.all p = true) : cut p (l ++ m) = l ++ cut p m := by
  induction l with
  | nil => rfl
  | cons x l ih =>
    simp only [List.all_cons, Bool.and_eq_true] at h
    rw [List.cons_append, cut, if_pos h.1, ih h.2]; rfl
theorem cut_app_no {p : U → Bool} {l m : List U} (h : l.all p = false) : cut p (l ++ m) = cut p l := by
  induction l with
  | nil => simp at h
  | cons x l ih =>
    rw [List.cons_append, cut, cut]
    split
    · rename_i hx
      simp only [List.all_cons, hx, Bool.true_and] at h
      rw [ih h]
    · rfl
theorem flats_cons (u : U) (us : List U) : U.flats (u :: us) = u.flat ++ U.flats us := by rw [U.flats]
theorem flats_nil : U.flats [] = [] := by rw [U.flats]

theorem SubN.comm1 {σ : Store} {p : Nat × AObj} : SubN (σ ++ [p]) (p :: σ) := by
  refine ⟨fun q hq => ?_, fun hn => ?_⟩
  · rcases List.mem_append.1 hq with h | h
    · exact List.mem_cons_of_mem _ h
    · simp only [List.mem_singleton] at h; subst h; simp
  · rw [keys_append]
    simp only [Store.keys, List.map_cons, List.nodup_cons, List.map_nil] at hn ⊢
    refine List.nodup_append.2 ⟨hn.2, by simp, ?_⟩
    intro a ha b hb e
    simp only [List.mem_singleton] at hb
    subst hb e
    exact hn.1 ha
theorem SubN.left {σ τ : Store} : SubN σ (σ ++ τ) := by
  refine ⟨fun q hq => List.mem_append.2 (.inl hq), fun hn => ?_⟩
  rw [keys_append] at hn
  exact (List.nodup_append.1 hn).1

theorem RET.mk {x : AV} {R : AV → Store → Prop} {σ σ' : Store} (hs : SubN σ' σ) (h : R x σ') : RET x σ R := ⟨x, σ', AVle.rfl' _, hs, h⟩
theorem flat_kids {u k x : U} (hk : k ∈ u.kids) (hx : x ∈ k.flat) : x ∈ u.flat := U.flat_kid hk hx

section
variable (G : Glob)

theorem f227 (f : Value) (p : U → Bool) (N : Nat) (St : List U → Store → Prop) (hN : N < 1000000) :
    ∀ (u : U), u.Tame → (∀ x ∈ u.flat, ∀ pre σ, St pre σ → pre.length < N → VSpec G Tryz.prog f [.agg x.cs] σ (fun r σ' => r = .bool (p x) ∧ St (pre ++ [x]) σ')) →
      ∀ pre σ, St pre σ → pre.length + u.flat.length ≤ N → FnSpec G Tryz.prog 227 [.agg u.cs, .sc f] σ (fun r σ' => r = .bool (u.flat.all p) ∧ St (pre ++ cut p u.flat) σ') := by
  refine U.ind fun u ih ht hf pre σ hSt hle => ?_
  have hkl := ht.kids
  have hfl := u.flat_eq
  have hlen : u.flat.length = 1 + (U.flats u.kids).length := by rw [hfl, List.length_cons]; omega
  refine FnSpec.w c227 ?_
  unfold s227 r227
  (repeat' (simp -dsimp -implicitDefEqProofs only [EV1, EV2, EV3, EV4, EV5, seval, ↓reduceIte, reduceCtorEq, eq_self, Option.map_some, decide_true, decide_false, EV6, EV7]))
  refine CALL_spec σ [] (hf u u.flat_self pre σ hSt (by omega)) (AVleA.rfl' _) (by simpa using SubN.refl _) ?_
  rintro r σ' ⟨rfl, hSt'⟩
  rw [List.append_nil]
  cases hp : p u
  · (repeat' (simp -dsimp -implicitDefEqProofs only [EV1, EV2, EV3, EV4, EV5, seval, ↓reduceIte, reduceCtorEq, eq_self, Option.map_some, decide_true, decide_false, EV6, EV7]))
    exact RET.mk (SubN.refl _) ⟨by rw [hfl, List.all_cons, hp]; rfl, by rw [hfl, cut, if_neg (by simp [hp])]; exact hSt'⟩
  · (repeat' (first | simp -dsimp -implicitDefEqProofs only [EV1, EV2, EV3, EV4, EV5, seval, ↓reduceIte, reduceCtorEq, eq_self, Option.map_some, decide_true, decide_false, EV6, EV7, hx.yes, hx.le0, hx.lt', hx.get, hx.row, hw] | simp -dsimp -implicitDefEqProofs only [EV1, EV2, EV3, EV4, EV5, seval, ↓reduceIte, reduceCtorEq, eq_self, Option.map_some, decide_true, decide_false, EV6, EV7, hn] | simp -dsimp -implicitDefEqProofs only [EV1, EV2, EV3, EV4, EV5, seval, ↓reduceIte, reduceCtorEq, eq_self, Option.map_some, decide_true, decide_false, EV6, EV7] | (with_reducible intro blk hblk; (try (have hnx := hblk; simp only [EVK] at hnx; (have hne := hnx)))) | (refine W_list (ι := Store × List U) u.kids (fun i r c => St c.2 c.1 ∧ pre ++ cut p u.flat = c.2 ++ cut p (U.flats r) ∧ u.flat.all p = (U.flats r).all p ∧ c.2.length + (U.flats r).length ≤ N) (fun i c => [(1, .sc f), (12, .lst 8 (u.kids.map U.cs)), (13, .int .i64 u.kids.length), (14, .int .i64 i)]) (fun i c => c.1) (σ', pre ++ [u]) ⟨hSt', by rw [hfl, cut, if_pos hp]; simp, by rw [hfl, List.all_cons, hp, Bool.true_and], by simp; omega⟩ (Weak.rfl' _ _) (by omega) (fun i x r c hok hx hw => ?_) (fun c hok hn => ?_) )))
    · obtain ⟨o1, o2, o3, o4⟩ := hok
      rw [flats_cons] at o2 o3 o4
      rw [List.length_append] at o4
      refine CALL_spec c.1 [(blk, .cells 28 x.cs)] (ih x hx.mem (ht.kid hx.mem) (fun y hy => hf y (flat_kids hx.mem hy)) c.2 c.1 o1 (by omega)).v (AVleA.rfl' _) SubN.comm1 ?_
      rintro r' σ2 ⟨rfl, hS2⟩
      cases hq : x.flat.all p
      · (repeat' (simp -dsimp -implicitDefEqProofs only [EV1, EV2, EV3, EV4, EV5, seval, ↓reduceIte, reduceCtorEq, eq_self, Option.map_some, decide_true, decide_false, EV6, EV7]))
        exact RET.mk SubN.left ⟨by rw [o3, List.all_append, hq]; rfl, by rw [o2, cut_app_no hq]; exact hS2⟩
      · (repeat' (simp -dsimp -implicitDefEqProofs only [EV1, EV2, EV3, EV4, EV5, seval, ↓reduceIte, reduceCtorEq, eq_self, Option.map_some, decide_true, decide_false, EV6, EV7, hw]))
        rw [cut_all hq] at hS2
        exact LK_next hx (σ2, c.2 ++ x.flat) ⟨hS2, by rw [o2, cut_app hq, List.append_assoc], by rw [o3, List.all_append, hq, Bool.true_and], by simp; omega⟩ (Weak.sub SubN.left)
    · obtain ⟨o1, o2, o3, o4⟩ := hok
      exact RET.mk (SubN.refl _) ⟨by rw [o3, flats_nil]; rfl, by rw [o2, flats_nil, cut, List.append_nil]; exact o1⟩

/-- A predicate that only computes. -/
theorem every_pure (f : Value) (p : U → Bool) (u : U) (ht : u.Tame) (hf : ∀ x ∈ u.flat, VPure G Tryz.prog f [.agg x.cs] (.bool (p x))) : Pure G Tryz.prog 227 [.agg u.cs, .sc f] (.bool (u.flat.all p)) := by
  refine FnSpec.mono (f227 G f p u.flat.length (fun _ σ => σ = []) ht.2 u ht (fun x hx pre σ hσ _ => ?_) [] [] rfl (by simp)) ?_
  · subst hσ; exact hf x hx
  · rintro r σ' ⟨h1, h2⟩; exact ⟨h1, h2⟩

theorem v_clo {k : Nat} {b : Nat} {args : List AV} {σ : Store} {R : AV → Store → Prop} (h : FnSpec G Tryz.prog k (args ++ [.sc (.pointer (some ⟨b, 0, none⟩))]) σ R) : VSpec G Tryz.prog (.func (.func k) #[] #[.pointer (some ⟨b, 0, none⟩)]) args σ R :=
  ⟨k, #[], #[.pointer (some ⟨b, 0, none⟩)], rfl, by simpa [AV.ofValue, AV.ofOne] using h⟩

theorem f228 (x : U) (b n : Nat) (hn : n < 1000000) : FnSpec G Tryz.prog 228 [.agg x.cs, .sc (.pointer (some ⟨b, 0, none⟩))] [(b, .cells 3 [.int .i64 n])] (fun r σ' => r = .bool true ∧ σ' = [(b, .cells 3 [.int .i64 ((n + 1 : Nat) : Int)])]) := by
  have hw : IntKind.i64.wrap ((n : Int) + 1) = ((n + 1 : Nat) : Int) := by rw [wrap_i64 (by omega) (by omega)]; omega
  refine FnSpec.w c228 ?_
  unfold s228 r228
  (repeat' (simp -dsimp -implicitDefEqProofs only [EV1, EV2, EV3, EV4, EV5, seval, ↓reduceIte, reduceCtorEq, eq_self, Option.map_some, decide_true, decide_false, EV6, EV7, hw]))
  exact RET.mk (SubN.refl _) ⟨rfl, rfl⟩

theorem f163 (u : U) (ht : u.Tame) : Pure G Tryz.prog 163 [.agg u.cs] (.int .i64 u.cnt) := by
  refine Pure.w c163 fun R hR => ?_
  unfold s163 r163
  (repeat' (first | simp -dsimp -implicitDefEqProofs only [EV1, EV2, EV3, EV4, EV5, seval, ↓reduceIte, reduceCtorEq, eq_self, Option.map_some, decide_true, decide_false, EV6, EV7] | (with_reducible intro blk hblk; (try (have hnx := hblk; simp only [EVK] at hnx; (have hne := hnx))))))
  refine CALL_spec _ [] (f227 G (.func (.func 228) #[] #[.pointer (some ⟨blk, 0, none⟩)]) (fun _ => true) u.flat.length (fun pre σ => σ = [(blk, .cells 3 [.int .i64 pre.length])]) ht.2 u ht (fun x hx pre σ hσ hp => ?_) [] _ rfl (by simp)).v (AVleA.rfl' _) (by simpa using SubN.refl _) ?_
  · subst hσ
    have hl := ht.2
    refine v_clo G (FnSpec.mono (f228 G x blk pre.length (by omega)) ?_)
    rintro r σ' ⟨h1, h2⟩
    exact ⟨h1, by rw [h2]; simp⟩
  · rintro r σ' ⟨rfl, rfl⟩
    rw [cut_all (by simp)]
    (repeat' (simp -dsimp -implicitDefEqProofs only [EV1, EV2, EV3, EV4, EV5, seval, ↓reduceIte, reduceCtorEq, eq_self, Option.map_some, decide_true, decide_false, EV6, EV7]))
    exact RET.eq hR (by simp [U.cnt])

theorem f229 (x : U) (b : Nat) (g : Option Nat) (rows : List Idd) (v : AV) (hv : v = .own g 24 3 (rows.map Idd.cs) ∨ v = .nil ∧ g = none ∧ rows = []) (hg : ∀ d, g = some d → d ≠ b) (hn : rows.length < 1000000) :
    FnSpec G Tryz.prog 229 [.agg x.cs, .sc (.pointer (some ⟨b, 0, none⟩))] ((b, .cells 87 [v]) :: tokS g 24 (rows.length * 3))
      (fun r σ' => r = .bool true ∧ ∃ g', (∀ d, g' = some d → d ≠ b) ∧ σ' = (b, .cells 87 [.own g' 24 3 ((rows ++ [x.id]).map Idd.cs)]) :: tokS g' 24 ((rows.length + 1) * 3)) := by
  have key : ∀ g' : Option Nat, (∀ d, g' = some d → d ≠ b) → ∀ σ, σ = (b, AObj.cells 87 [.own g' 24 3 (rows.map Idd.cs ++ [x.id.cs])]) :: tokS g' 24 ((rows.length + 1) * 3) → RET (.bool true) σ (fun r σ' => r = .bool true ∧ ∃ g', (∀ d, g' = some d → d ≠ b) ∧ σ' = (b, .cells 87 [.own g' 24 3 ((rows ++ [x.id]).map Idd.cs)]) :: tokS g' 24 ((rows.length + 1) * 3)) := by
    rintro g' h1 σ rfl
    exact RET.mk (SubN.refl _) ⟨rfl, g', h1, by simp⟩
  refine FnSpec.w c229 ?_
  unfold s229 r229
  rcases hv with rfl | ⟨rfl, rfl, rfl⟩
  · (repeat' (first | simp -dsimp -implicitDefEqProofs only [EV1, EV2, EV3, EV4, EV5, seval, ↓reduceIte, reduceCtorEq, eq_self, Option.map_some, decide_true, decide_false, EV6, EV7] | (with_reducible intro blk hblk; (try (have hnx := hblk; simp only [EVK] at hnx; (have hne := hnx)))) | (refine app_rowK (n := rows.length) (m' := (rows.length + 1) * 3) [_] (by rfl) (by simpa [Store.keys] using hg) (by simp) rfl rfl rfl (by assumption) (by omega) (fun gn hgn => ?_))))
    exact key gn (by simpa [Store.keys] using hgn) _ rfl
  · (repeat' (first | simp -dsimp -implicitDefEqProofs only [EV1, EV2, EV3, EV4, EV5, seval, ↓reduceIte, reduceCtorEq, eq_self, Option.map_some, decide_true, decide_false, EV6, EV7] | (with_reducible intro blk hblk; (try (have hnx := hblk; simp only [EVK] at hnx; (have hne := hnx)))) | (refine app_rowK (n := 0) (m' := 3) [_] (by rfl) (by simp) (by simp) rfl rfl rfl (by assumption) (by omega) (fun gn hgn => ?_))))
    exact RET.mk (SubN.refl _) ⟨rfl, gn, by simpa [Store.keys] using hgn, rfl⟩

theorem f164 (u : U) (ht : u.Tame) : Pure G Tryz.prog 164 [.agg u.cs] (.lst 3 (u.ids.map Idd.cs)) := by
  refine Pure.w c164 fun R hR => ?_
  unfold s164 r164
  (repeat' (first | simp -dsimp -implicitDefEqProofs only [EV1, EV2, EV3, EV4, EV5, seval, ↓reduceIte, reduceCtorEq, eq_self, Option.map_some, decide_true, decide_false, EV6, EV7] | (with_reducible intro blk hblk; (try (have hnx := hblk; simp only [EVK] at hnx; (have hne := hnx))))))
  refine CALL_spec _ [] (f227 G (.func (.func 229) #[] #[.pointer (some ⟨blk, 0, none⟩)]) (fun _ => true) u.flat.length (fun pre σ => ∃ v g, (v = .own g 24 3 ((pre.map U.id).map Idd.cs) ∨ v = .nil ∧ g = none ∧ pre.map U.id = []) ∧ (∀ d, g = some d → d ≠ blk) ∧ σ = (blk, .cells 87 [v]) :: tokS g 24 ((pre.map U.id).length * 3)) ht.2 u ht (fun x hx pre σ hσ hp => ?_) [] _ ⟨.nil, none, .inr ⟨rfl, rfl, rfl⟩, by simp, rfl⟩ (by simp)).v (AVleA.rfl' _) (by rw [List.append_nil]; exact SubN.refl _) ?_
  · have hl := ht.2
    obtain ⟨v, g, hv, hg, rfl⟩ := hσ
    refine v_clo G (FnSpec.mono (f229 G x blk g _ v hv hg (by simp; omega)) ?_)
    rintro r σ' ⟨h1, g', h2, rfl⟩
    exact ⟨h1, _, g', .inl rfl, h2, by simp⟩
  · rintro r σ' ⟨rfl, v, g, hv, hg, rfl⟩
    rw [cut_all (by simp)] at hv ⊢
    simp only [List.nil_append, List.append_nil] at hv ⊢
    rcases hv with rfl | ⟨rfl, rfl, h0⟩
    · (repeat' (simp -dsimp -implicitDefEqProofs only [EV1, EV2, EV3, EV4, EV5, seval, ↓reduceIte, reduceCtorEq, eq_self, Option.map_some, decide_true, decide_false, EV6, EV7]))
      exact hR _ _ (Or.inl (Or.inr ⟨rfl, by simp [U.ids]⟩))
    · exact absurd h0 (by rw [U.flat_eq]; simp)
end
end Go.Av
