/-
  LINT, 29: trees stripped by the program.
-/
import Derived.Test.YtedcgagodcfgmaaGreatDoorXL51toXL27
namespace Go.Av
open Go Go.RowKit Go.Proofs
set_option linter.unusedSimpArgs false
set_option linter.unusedVariables false

theorem mix_len {α : Type} {g : α → α} {f : α → List AV} {l : List α} {i : Nat} {x : α} {r : List α} (hx : Rest l i x r) : (((l.take i).map g ++ l.drop i).map f).length = l.length := by
  simp; have := hx.lt; omega
theorem mix_len' {α : Type} {g : α → α} {f : α → List AV} {l : List α} {i : Nat} {x : α} {r : List α} (hx : Rest l i x r) : (((l.take (i + 1)).map g ++ l.drop (i + 1)).map f).length = l.length := by
  simp; have := hx.lt; omega
theorem mix_get {α : Type} {g : α → α} {f : α → List AV} {l : List α} {i : Nat} {x : α} {r : List α} (hx : Rest l i x r) (hi : i < (((l.take i).map g ++ l.drop i).map f).length) : (((l.take i).map g ++ l.drop i).map f)[i] = f x := by
  have h1 := hx.lt
  have h2 := hx.get x
  rw [List.getElem_map, List.getElem_append_right (by simp; omega)]
  simp only [List.length_map, List.length_take, List.getElem_drop]
  congr 1
  have e : i + (i - min i l.length) = i := by omega
  simp only [e]
  simpa [h1] using h2
theorem mix_set {α : Type} {g : α → α} {f : α → List AV} {l : List α} {i : Nat} {x : α} {r : List α} (hx : Rest l i x r) : (((l.take i).map g ++ l.drop i).map f).set i (f (g x)) = ((l.take (i + 1)).map g ++ l.drop (i + 1)).map f := by
  have h1 := hx.lt
  rw [List.map_append, List.set_append_right _ _ (by simp; omega)]
  have e : i - (List.map f (List.map g (List.take i l))).length = 0 := by simp; omega
  rw [e, hx.take, List.map_append, List.map_append, List.map_append]
  have h3 : l.drop i = x :: l.drop (i + 1) := by
    rw [List.drop_eq_getElem_cons h1]
    congr 1
    simpa [h1] using hx.get x
  rw [h3]
  simp
theorem bare_len {l : List Wd} {i : Nat} {x : Wd} {r : List Wd} (hx : Rest l i x r) : (((l.take i).map Wd.bare ++ l.drop i).map Wd.cs).length = l.length := mix_len hx
theorem bare_len' {l : List Wd} {i : Nat} {x : Wd} {r : List Wd} (hx : Rest l i x r) : (((l.take (i + 1)).map Wd.bare ++ l.drop (i + 1)).map Wd.cs).length = l.length := mix_len' hx
theorem bare_step {l : List Wd} {i : Nat} {x : Wd} {r : List Wd} (hx : Rest l i x r) (hi : i < (((l.take i).map Wd.bare ++ l.drop i).map Wd.cs).length) :
    (((l.take i).map Wd.bare ++ l.drop i).map Wd.cs).set i (splice (((l.take i).map Wd.bare ++ l.drop i).map Wd.cs)[i] 1 [.int .i64 0, .int .i64 0, .int .i64 0]) = (((l.take (i + 1)).map Wd.bare ++ l.drop (i + 1)).map Wd.cs) := by
  rw [mix_get hx hi, ← mix_set hx]
  rfl
theorem strip_step {l : List U} {i : Nat} {x : U} {r : List U} (hx : Rest l i x r) (hi : i < (((l.take i).map U.strip ++ l.drop i).map U.cs).length) :
    (((l.take i).map U.strip ++ l.drop i).map U.cs).set i (splice (((l.take i).map U.strip ++ l.drop i).map U.cs)[i] 0 x.strip.cs) = (((l.take (i + 1)).map U.strip ++ l.drop (i + 1)).map U.cs) := by
  rw [mix_get hx hi, ← mix_set hx]
  congr 1
  rw [splice_eq _ _ _ (by rw [U.cs_len, U.cs_len]; omega), U.cs_len, List.drop_of_length_le (by rw [U.cs_len]; omega)]
  simp
theorem perm_in {a b c d : Store} : List.Perm (c ++ (a ++ (b ++ d))) (a ++ (b ++ (c ++ d))) := by
  have h1 : List.Perm (c ++ (a ++ (b ++ d))) ((a ++ b) ++ (c ++ d)) := by
    rw [← List.append_assoc a b d]
    exact List.perm_append_comm_assoc c (a ++ b) d
  rwa [List.append_assoc] at h1
theorem perm_mid {a b c : Store} : List.Perm (b ++ (a ++ c)) (a ++ (b ++ c)) := List.perm_append_comm_assoc b a c

section
variable (G : Glob)
set_option maxHeartbeats 4000000 in
theorem f282 : ∀ (u : U), u.Short → Pure G Tryz.prog 282 [.agg u.cs] (.agg u.strip.cs) := by
  refine U.ind fun u ih hs => CopyR.freeze ?_
  have h0 := hs.2 u u.flat_self
  have hkl := hs.1.kids
  have hhl := h0.2.1
  have hwl := h0.2.2.1
  have hC := f114 G u hs
  rw [U.cs_eq u] at hC ⊢
  refine FnSpec.w c282 ?_
  unfold s282 r282
  (try simp -dsimp -implicitDefEqProofs only [EV1, EV2, EV3, EV4, EV5, seval, ↓reduceIte, reduceCtorEq, eq_self, Option.map_some, decide_true, decide_false, EV6, EV7])
  intro b1 hb1 b2 hb2
  have hb12 : ¬ b1 = b2 := by simp only [EVK] at hb2; exact fun e => hb2 e.symm
  have hb21 : ¬ b2 = b1 := fun e => hb12 e.symm
  (try simp -dsimp -implicitDefEqProofs only [EV1, EV2, EV3, EV4, EV5, seval, ↓reduceIte, reduceCtorEq, eq_self, Option.map_some, decide_true, decide_false, EV6, EV7, hb12, hb21])
  refine CALL_specN [] _ hC.v (AVleA.rfl' _) (SubN.refl _) ?_
  rintro _ _ ⟨bh, ch, σh, bw, cw, σw, bk, ck, σk, rfl, rfl, hOh, hOw, hOk⟩ hnd1
  simp only [List.append_eq, List.append_assoc] at hnd1
  have hK1 : b1 ∉ σk.keys := nd_app hnd1 (by simp [Store.keys])
  have hK2 : b2 ∉ σk.keys := nd_app hnd1 (by simp [Store.keys])
  have hnd2 := nd_appR hnd1
  have hW1 : b1 ∉ σw.keys := nd_app hnd2 (by simp [Store.keys])
  have hW2 : b2 ∉ σw.keys := nd_app hnd2 (by simp [Store.keys])
  have hnd3 := nd_appR hnd2
  have hH1 : b1 ∉ σh.keys := nd_app hnd3 (by simp [Store.keys])
  have hH2 : b2 ∉ σh.keys := nd_app hnd3 (by simp [Store.keys])
  (try simp -dsimp -implicitDefEqProofs only [EV1, EV2, EV3, EV4, EV5, seval, ↓reduceIte, reduceCtorEq, eq_self, Option.map_some, decide_true, decide_false, EV6, EV7, sget_app hK1, sget_app hK2, sset_app hK1, sset_app hK2, sget_app hW1, sget_app hW2, sset_app hW1, sset_app hW2, sget_app hH1, sget_app hH2, sset_app hH1, sset_app hH2, hb12, hb21, List.append_eq, List.append_assoc])
  intro b15 hb15
  refine ⟨[[.sc (.slice bh u.head.length ch)], [.sc (.slice bw u.words.length cw)]], rfl, by simp, rfl, ?_⟩
  (try simp -dsimp -implicitDefEqProofs only [EV1, EV2, EV3, EV4, EV5, seval, ↓reduceIte, reduceCtorEq, eq_self, Option.map_some, decide_true, decide_false, EV6, EV7, sget_app hK1, sget_app hK2, sset_app hK1, sset_app hK2, sget_app hW1, sget_app hW2, sset_app hW1, sset_app hW2, sget_app hH1, sget_app hH2, sset_app hH1, sset_app hH2, hb12, hb21, List.append_eq, List.append_assoc])
  have hnd0 : (Store.keys (σk ++ (σw ++ (σh ++ [(b2, AObj.cells 28 [.int .i64 0, .int .i64 0, .int .i64 0, .int .i64 0, .str [], .nil, .nil, .nil]), (b1, AObj.cells 28 [.int .i64 0, .int .i64 0, .int .i64 0, .int .i64 u.kind, .str u.label, .sc (.slice bh u.head.length ch), .sc (.slice bw u.words.length cw), .sc (.slice bk u.kids.length ck)])])))).Nodup := by simpa [Store.keys] using hnd1
  refine W_loop (ι := Nat × Store × Store) (fun p => p.1 ≤ 2 ∧ OpenS 130 4 ((if 0 < p.1 then u.head.map Wd.bare else u.head).map Wd.cs) bh ch p.2.1 ∧ OpenS 130 4 ((if 1 < p.1 then u.words.map Wd.bare else u.words).map Wd.cs) bw cw p.2.2 ∧ (Store.keys (σk ++ (p.2.2 ++ (p.2.1 ++ [(b2, AObj.cells 28 [.int .i64 0, .int .i64 0, .int .i64 0, .int .i64 0, .str [], .nil, .nil, .nil]), (b1, AObj.cells 28 [.int .i64 0, .int .i64 0, .int .i64 0, .int .i64 u.kind, .str u.label, .sc (.slice bh u.head.length ch), .sc (.slice bw u.words.length cw), .sc (.slice bk u.kids.length ck)])])))).Nodup)
    (fun p => 2 - p.1) (fun p => [(1, .sc (.pointer (some ⟨b1, 0, none⟩))), (2, .sc (.pointer (some ⟨b2, 0, none⟩))), (15, .own (some b15) 25 1 [[.sc (.slice bh u.head.length ch)], [.sc (.slice bw u.words.length cw)]]), (16, .int .i64 2), (17, .int .i64 p.1)]) (fun p => σk ++ (p.2.2 ++ (p.2.1 ++ [(b2, AObj.cells 28 [.int .i64 0, .int .i64 0, .int .i64 0, .int .i64 0, .str [], .nil, .nil, .nil]), (b1, AObj.cells 28 [.int .i64 0, .int .i64 0, .int .i64 0, .int .i64 u.kind, .str u.label, .sc (.slice bh u.head.length ch), .sc (.slice bw u.words.length cw), .sc (.slice bk u.kids.length ck)])]))) (0, σh, σw) ⟨Nat.zero_le _, hOh, hOw, hnd0⟩ (Weak.sub ((SubN.refl _).tail _)) ?_
  rintro ⟨j, th, tw⟩ ⟨hj, hth, htw, hnd⟩
  simp only at hth htw hnd ⊢
  have hjj : j = 0 ∨ j = 1 ∨ j = 2 := by omega
  rcases hjj with rfl | rfl | rfl
  · simp only [Nat.lt_irrefl, if_false, show ¬ (1 < 0) by omega] at hth htw
    (try simp -dsimp -implicitDefEqProofs only [EV1, EV2, EV3, EV4, EV5, seval, ↓reduceIte, reduceCtorEq, eq_self, Option.map_some, decide_true, decide_false, EV6, EV7, List.append_eq])
    have hwk : ∀ (i : Nat) (x : Wd), True := fun _ _ => trivial
    refine W_list (ι := Store) u.head (fun i r c => OpenS 130 4 (((u.head.take i).map Wd.bare ++ u.head.drop i).map Wd.cs) bh ch c ∧ (Store.keys (c ++ (σk ++ (tw ++ [(b2, AObj.cells 28 [.int .i64 0, .int .i64 0, .int .i64 0, .int .i64 0, .str [], .nil, .nil, .nil]), (b1, AObj.cells 28 [.int .i64 0, .int .i64 0, .int .i64 0, .int .i64 u.kind, .str u.label, .sc (.slice bh u.head.length ch), .sc (.slice bw u.words.length cw), .sc (.slice bk u.kids.length ck)])])))).Nodup)
      (fun i c => [(1, .sc (.pointer (some ⟨b1, 0, none⟩))), (2, .sc (.pointer (some ⟨b2, 0, none⟩))), (15, .own (some b15) 25 1 [[.sc (.slice bh u.head.length ch)], [.sc (.slice bw u.words.length cw)]]), (16, .int .i64 2), (17, .int .i64 0), (4, .sc (.slice bh u.head.length ch)), (22, .int .i64 u.head.length), (23, .int .i64 i)])
      (fun i c => c ++ (σk ++ (tw ++ [(b2, AObj.cells 28 [.int .i64 0, .int .i64 0, .int .i64 0, .int .i64 0, .str [], .nil, .nil, .nil]), (b1, AObj.cells 28 [.int .i64 0, .int .i64 0, .int .i64 0, .int .i64 u.kind, .str u.label, .sc (.slice bh u.head.length ch), .sc (.slice bw u.words.length cw), .sc (.slice bk u.kids.length ck)])]))) th ⟨by simpa using hth, (SubN.perm perm_in).2 hnd⟩ (Weak.sub (SubN.perm perm_in)) (by omega) (fun i x r c hok hx hw => ?_) (fun c hok hn => ?_)
    · obtain ⟨hO, hN⟩ := hok
      rcases hO with ⟨h0, _, _⟩ | ⟨b, pad, rfl, rfl, hle, hcm, hrl, hln⟩
      · exfalso
        have := congrArg List.length h0
        have h9 := hx.lt
        simp at this
        omega
      · have hrl0 := bare_len hx
        have hi : i < (((u.head.take i).map Wd.bare ++ u.head.drop i).map Wd.cs).length := by rw [hrl0]; exact hx.lt
        (try simp -dsimp -implicitDefEqProofs only [EV1, EV2, EV3, EV4, EV5, seval, ↓reduceIte, reduceCtorEq, eq_self, Option.map_some, decide_true, decide_false, EV6, EV7, hx.yes, hx.le0, hx.lt', hw, Nat.zero_add, List.append_eq])
        refine ⟨by rw [hln]; rw [hrl0] at hle; have := hx.lt; omega, ?_⟩
        rw [rows_splice (sz := 4) (off := 1) (c := [.int .i64 0, .int .i64 0, .int .i64 0]) (by decide) hrl hi, bare_step hx hi]
        (try simp -dsimp -implicitDefEqProofs only [EV1, EV2, EV3, EV4, EV5, seval, ↓reduceIte, reduceCtorEq, eq_self, Option.map_some, decide_true, decide_false, EV6, EV7, hw, List.append_eq])
        refine LK_next hx [(b, .cells 130 ((((u.head.take (i + 1)).map Wd.bare ++ u.head.drop (i + 1)).map Wd.cs).flatten ++ pad))] ⟨.inr ⟨b, pad, rfl, rfl, ?_, hcm, rows4 _, ?_⟩, by simpa [Store.keys] using hN⟩ (Weak.rfl' _ _)
        · rw [bare_len' hx]; rw [hrl0] at hle; exact hle
        · rw [← hln, List.length_append, List.length_append, flat_len _ (rows4 _), flat_len _ (rows4 _), bare_len' hx, hrl0]
    · obtain ⟨hO, hN⟩ := hok
      rw [List.take_length, List.drop_length, List.append_nil] at hO
      (try simp -dsimp -implicitDefEqProofs only [EV1, EV2, EV3, EV4, EV5, seval, ↓reduceIte, reduceCtorEq, eq_self, Option.map_some, decide_true, decide_false, EV6, EV7, hn])
      refine ⟨(1, c, tw), ⟨by omega, by simpa using hO, by simpa using htw, (SubN.perm perm_in.symm).2 hN⟩, by simp, ?_⟩
      exact Weak.sub (SubN.perm perm_in.symm)
  · simp only [Nat.lt_irrefl, if_false, show (0 < 1) by omega, if_true] at hth htw
    (try simp -dsimp -implicitDefEqProofs only [EV1, EV2, EV3, EV4, EV5, seval, ↓reduceIte, reduceCtorEq, eq_self, Option.map_some, decide_true, decide_false, EV6, EV7, List.append_eq])
    have hwk : ∀ (i : Nat) (x : Wd), True := fun _ _ => trivial
    refine W_list (ι := Store) u.words (fun i r c => OpenS 130 4 (((u.words.take i).map Wd.bare ++ u.words.drop i).map Wd.cs) bw cw c ∧ (Store.keys (c ++ (σk ++ (th ++ [(b2, AObj.cells 28 [.int .i64 0, .int .i64 0, .int .i64 0, .int .i64 0, .str [], .nil, .nil, .nil]), (b1, AObj.cells 28 [.int .i64 0, .int .i64 0, .int .i64 0, .int .i64 u.kind, .str u.label, .sc (.slice bh u.head.length ch), .sc (.slice bw u.words.length cw), .sc (.slice bk u.kids.length ck)])])))).Nodup)
      (fun i c => [(1, .sc (.pointer (some ⟨b1, 0, none⟩))), (2, .sc (.pointer (some ⟨b2, 0, none⟩))), (15, .own (some b15) 25 1 [[.sc (.slice bh u.head.length ch)], [.sc (.slice bw u.words.length cw)]]), (16, .int .i64 2), (17, .int .i64 1), (4, .sc (.slice bw u.words.length cw)), (22, .int .i64 u.words.length), (23, .int .i64 i)])
      (fun i c => c ++ (σk ++ (th ++ [(b2, AObj.cells 28 [.int .i64 0, .int .i64 0, .int .i64 0, .int .i64 0, .str [], .nil, .nil, .nil]), (b1, AObj.cells 28 [.int .i64 0, .int .i64 0, .int .i64 0, .int .i64 u.kind, .str u.label, .sc (.slice bh u.head.length ch), .sc (.slice bw u.words.length cw), .sc (.slice bk u.kids.length ck)])]))) tw ⟨by simpa using htw, (SubN.perm perm_mid).2 hnd⟩ (Weak.sub (SubN.perm perm_mid)) (by omega) (fun i x r c hok hx hw => ?_) (fun c hok hn => ?_)
    · obtain ⟨hO, hN⟩ := hok
      rcases hO with ⟨h0, _, _⟩ | ⟨b, pad, rfl, rfl, hle, hcm, hrl, hln⟩
      · exfalso
        have := congrArg List.length h0
        have h9 := hx.lt
        simp at this
        omega
      · have hrl0 := bare_len hx
        have hi : i < (((u.words.take i).map Wd.bare ++ u.words.drop i).map Wd.cs).length := by rw [hrl0]; exact hx.lt
        (try simp -dsimp -implicitDefEqProofs only [EV1, EV2, EV3, EV4, EV5, seval, ↓reduceIte, reduceCtorEq, eq_self, Option.map_some, decide_true, decide_false, EV6, EV7, hx.yes, hx.le0, hx.lt', hw, Nat.zero_add, List.append_eq])
        refine ⟨by rw [hln]; rw [hrl0] at hle; have := hx.lt; omega, ?_⟩
        rw [rows_splice (sz := 4) (off := 1) (c := [.int .i64 0, .int .i64 0, .int .i64 0]) (by decide) hrl hi, bare_step hx hi]
        (try simp -dsimp -implicitDefEqProofs only [EV1, EV2, EV3, EV4, EV5, seval, ↓reduceIte, reduceCtorEq, eq_self, Option.map_some, decide_true, decide_false, EV6, EV7, hw, List.append_eq])
        refine LK_next hx [(b, .cells 130 ((((u.words.take (i + 1)).map Wd.bare ++ u.words.drop (i + 1)).map Wd.cs).flatten ++ pad))] ⟨.inr ⟨b, pad, rfl, rfl, ?_, hcm, rows4 _, ?_⟩, by simpa [Store.keys] using hN⟩ (Weak.rfl' _ _)
        · rw [bare_len' hx]; rw [hrl0] at hle; exact hle
        · rw [← hln, List.length_append, List.length_append, flat_len _ (rows4 _), flat_len _ (rows4 _), bare_len' hx, hrl0]
    · obtain ⟨hO, hN⟩ := hok
      rw [List.take_length, List.drop_length, List.append_nil] at hO
      (try simp -dsimp -implicitDefEqProofs only [EV1, EV2, EV3, EV4, EV5, seval, ↓reduceIte, reduceCtorEq, eq_self, Option.map_some, decide_true, decide_false, EV6, EV7, hn])
      refine ⟨(2, th, c), ⟨by omega, by simpa using hth, by simpa using hO, (SubN.perm perm_mid.symm).2 hN⟩, by simp, ?_⟩
      exact Weak.sub (SubN.perm perm_mid.symm)
  · simp only [show (0 < 2) by omega, show (1 < 2) by omega, if_true] at hth htw
    have hT0 := nd_appR hnd
    have hT1 : b1 ∉ tw.keys := nd_app hT0 (by simp [Store.keys])
    have hT2 : b2 ∉ tw.keys := nd_app hT0 (by simp [Store.keys])
    have hT3 := nd_appR hT0
    have hT4 : b1 ∉ th.keys := nd_app hT3 (by simp [Store.keys])
    have hT5 : b2 ∉ th.keys := nd_app hT3 (by simp [Store.keys])
    (try simp -dsimp -implicitDefEqProofs only [EV1, EV2, EV3, EV4, EV5, seval, ↓reduceIte, reduceCtorEq, eq_self, Option.map_some, decide_true, decide_false, EV6, EV7, sget_app hT1, sget_app hT2, sset_app hT1, sset_app hT2, sget_app hT4, sget_app hT5, sset_app hT4, sset_app hT5, hb12, hb21, List.append_eq, List.append_assoc, sget_app hK1, sget_app hK2, sset_app hK1, sset_app hK2])
    refine W_list (ι := Store) u.kids (fun i r c => OpenS 28 8 (((u.kids.take i).map U.strip ++ u.kids.drop i).map U.cs) bk ck c ∧ (Store.keys (c ++ (tw ++ (th ++ [(b2, AObj.cells 28 [.int .i64 0, .int .i64 0, .int .i64 0, .int .i64 0, .str [], .nil, .nil, .nil]), (b1, AObj.cells 28 [.int .i64 0, .int .i64 0, .int .i64 0, .int .i64 u.kind, .str u.label, .sc (.slice bh u.head.length ch), .sc (.slice bw u.words.length cw), .sc (.slice bk u.kids.length ck)])])))).Nodup)
      (fun i c => [(1, .sc (.pointer (some ⟨b1, 0, none⟩))), (2, .sc (.pointer (some ⟨b2, 0, none⟩))), (35, .int .i64 u.kids.length), (36, .int .i64 i)]) (fun i c => c ++ (tw ++ (th ++ [(b2, AObj.cells 28 [.int .i64 0, .int .i64 0, .int .i64 0, .int .i64 0, .str [], .nil, .nil, .nil]), (b1, AObj.cells 28 [.int .i64 0, .int .i64 0, .int .i64 0, .int .i64 u.kind, .str u.label, .sc (.slice bh u.head.length ch), .sc (.slice bw u.words.length cw), .sc (.slice bk u.kids.length ck)])]))) σk ⟨by simpa using hOk, hnd⟩ (Weak.rfl' _ _) (by omega) (fun i x r c hok hx hw => ?_) (fun c hok hn => ?_)
    · obtain ⟨hO, hN⟩ := hok
      rcases hO with ⟨h0, _, _⟩ | ⟨b, pad, rfl, rfl, hle, hcm, hrl, hln⟩
      · exfalso
        have := congrArg List.length h0
        have h9 := hx.lt
        simp at this
        omega
      · have hm0 := mix_len (g := U.strip) (f := U.cs) hx
        have hi : i < (((u.kids.take i).map U.strip ++ u.kids.drop i).map U.cs).length := by rw [hm0]; exact hx.lt
        have hbb : ¬ b = b1 := by
          intro e
          subst e
          exact nd_app hN (b := b) (by simp [Store.keys]) (by simp [Store.keys])
        have htk := rows_take (pad := pad) hrl hi
        rw [mix_get hx hi] at htk
        have hroom : 8 ≤ ((List.map U.cs (List.map U.strip (List.take i u.kids) ++ List.drop i u.kids)).flatten ++ pad).length - i * 8 := by rw [hln]; rw [hm0] at hle; have := hx.lt; omega
        have hsp := rows_splice (sz := 8) (off := 0) (c := x.strip.cs) (by rw [U.cs_len]; omega) (pad := pad) hrl hi
        rw [strip_step hx hi, Nat.add_zero] at hsp
        have hst := ih x hx.mem (hs.kid hx.mem)
        (repeat' (first | (with_reducible refine And.intro (by omega) ?_) | (with_reducible refine CALL_pure (hst) ?_) | simp -dsimp -implicitDefEqProofs only [EV1, EV2, EV3, EV4, EV5, seval, ↓reduceIte, reduceCtorEq, eq_self, Option.map_some, decide_true, decide_false, EV6, EV7, hx.yes, hx.le0, hx.lt', hw, hbb, hb12, hb21, sget_app hT1, sget_app hT2, sget_app hT4, sget_app hT5, Nat.zero_add, List.append_eq, htk, hsp, List.length_drop, U.cs_len] | (with_reducible refine both_case ?_ ?_) | (with_reducible refine same_case ?_)))
        all_goals
          (try rw [hsp])
          refine LK_next hx [(b, .cells 28 ((((u.kids.take (i + 1)).map U.strip ++ u.kids.drop (i + 1)).map U.cs).flatten ++ pad))] ⟨.inr ⟨b, pad, rfl, rfl, ?_, hcm, rows8 _, ?_⟩, by simpa [Store.keys] using hN⟩ (Weak.rfl' _ _)
          · rw [mix_len' hx]; rw [hm0] at hle; exact hle
          · rw [← hln, List.length_append, List.length_append, flat_len _ (rows8 _), flat_len _ (rows8 _), mix_len' hx, hm0]
    · obtain ⟨hO, hN⟩ := hok
      rw [List.take_length, List.drop_length, List.append_nil] at hO
      have hC1 : b1 ∉ c.keys := nd_app hN (by simp [Store.keys])
      have hC2 : b2 ∉ c.keys := nd_app hN (by simp [Store.keys])
      (try simp -dsimp -implicitDefEqProofs only [EV1, EV2, EV3, EV4, EV5, seval, ↓reduceIte, reduceCtorEq, eq_self, Option.map_some, decide_true, decide_false, EV6, EV7, hn, sget_app hT1, sget_app hT2, sset_app hT1, sset_app hT2, sget_app hT4, sget_app hT5, sset_app hT4, sset_app hT5, hb12, hb21, List.append_eq, List.append_assoc, sget_app hC1, sget_app hC2, sset_app hC1, sset_app hC2])
      refine RET.mk' (σ' := c ++ (tw ++ th)) (SubN.app (SubN.app SubN.appL)) ⟨bh, ch, th, bw, cw, tw, bk, ck, c, ?_, rfl, ?_, ?_, ?_⟩
      · rw [U.strip_eq]; simp
      · rw [U.strip_eq]; exact hth
      · rw [U.strip_eq]; exact htw
      · rw [U.strip_eq]; exact hO
end
end Go.Av
