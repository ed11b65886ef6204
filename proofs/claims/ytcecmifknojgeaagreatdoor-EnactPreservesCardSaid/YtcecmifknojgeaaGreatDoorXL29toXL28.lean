/-
  LINT, 29: trees stripped by the program.
-/
import Derived.Test.YtcecmifknojgeaaGreatDoorXE12toXL27
import Derived.Test.YtcecmifknojgeaaGreatDoorXP1toXE11
import Derived.Test.YtcecmifknojgeaaGreatDoorXL19toXOpI
import Derived.Lib.Join
section
namespace Go.Av
open Go Go.RowKit Go.Proofs
set_option linter.unusedSimpArgs false
set_option linter.unusedVariables false

theorem mix_len {α : Type} {g : α → α} {f : α → List AV} {l : List α} {i : Nat} {x : α} {r : List α} (hx : Rest l i x r) : (((l.take i).map g ++ l.drop i).map f).length = l.length := by
  simp; have := hx.lt; omega
theorem mix_len' {α : Type} {g : α → α} {f : α → List AV} {l : List α} {i : Nat} {x : α} {r : List α} (hx : Rest l i x r) : (((l.take (i + 1)).map g ++ l.drop (i + 1)).map f).length = l.length := by
  simp; have := hx.lt; omega
theorem mix_get {α : Type} {g : α → α} {f : α → List AV} {l : List α} {i : Nat} {x : α} {r : List α} (hx : Rest l i x r) (hi : i < (((l.take i).map g ++ l.drop i).map f).length) : (((l.take i).map g ++ l.drop i).map f)[i] = f x := by
  have h1 := hx.lt
  have h2 := hx.get x
  rw [List.getElem_map, List.getElem_append_right (by simp; omega)]
  simp only [List.length_map, List.length_take, List.getElem_drop]
  congr 1
  have e : i + (i - min i l.length) = i := by omega
  simp only [e]
  simpa [h1] using h2
theorem mix_set {α : Type} {g : α → α} {f : α → List AV} {l : List α} {i : Nat} {x : α} {r : List α} (hx : Rest l i x r) : (((l.take i).map g ++ l.drop i).map f).set i (f (g x)) = ((l.take (i + 1)).map g ++ l.drop (i + 1)).map f := by
  have h1 := hx.lt
  rw [List.map_append, List.set_append_right _ _ (by simp; omega)]
  have e : i - (List.map f (List.map g (List.take i l))).length = 0 := by simp; omega
  rw [e, hx.take, List.map_append, List.map_append, List.map_append]
  have h3 : l.drop i = x :: l.drop (i + 1) := by
    rw [List.drop_eq_getElem_cons h1]
    congr 1
    simpa [h1] using hx.get x
  rw [h3]
  simp
theorem bare_len {l : List Wd} {i : Nat} {x : Wd} {r : List Wd} (hx : Rest l i x r) : (((l.take i).map Wd.bare ++ l.drop i).map Wd.cs).length = l.length := mix_len hx
theorem bare_len' {l : List Wd} {i : Nat} {x : Wd} {r : List Wd} (hx : Rest l i x r) : (((l.take (i + 1)).map Wd.bare ++ l.drop (i + 1)).map Wd.cs).length = l.length := mix_len' hx
theorem bare_step {l : List Wd} {i : Nat} {x : Wd} {r : List Wd} (hx : Rest l i x r) (hi : i < (((l.take i).map Wd.bare ++ l.drop i).map Wd.cs).length) :
    (((l.take i).map Wd.bare ++ l.drop i).map Wd.cs).set i (splice (((l.take i).map Wd.bare ++ l.drop i).map Wd.cs)[i] 1 [.int .i64 0, .int .i64 0, .int .i64 0]) = (((l.take (i + 1)).map Wd.bare ++ l.drop (i + 1)).map Wd.cs) := by
  rw [mix_get hx hi, ← mix_set hx]
  rfl
theorem strip_step {l : List U} {i : Nat} {x : U} {r : List U} (hx : Rest l i x r) (hi : i < (((l.take i).map U.strip ++ l.drop i).map U.cs).length) :
    (((l.take i).map U.strip ++ l.drop i).map U.cs).set i (splice (((l.take i).map U.strip ++ l.drop i).map U.cs)[i] 0 x.strip.cs) = (((l.take (i + 1)).map U.strip ++ l.drop (i + 1)).map U.cs) := by
  rw [mix_get hx hi, ← mix_set hx]
  congr 1
  rw [splice_eq _ _ _ (by rw [U.cs_len, U.cs_len]; omega), U.cs_len, List.drop_of_length_le (by rw [U.cs_len]; omega)]
  simp
theorem perm_in {a b c d : Store} : List.Perm (c ++ (a ++ (b ++ d))) (a ++ (b ++ (c ++ d))) := by
  have h1 : List.Perm (c ++ (a ++ (b ++ d))) ((a ++ b) ++ (c ++ d)) := by
    rw [← List.append_assoc a b d]
    exact List.perm_append_comm_assoc c (a ++ b) d
  rwa [List.append_assoc] at h1
theorem perm_mid {a b c : Store} : List.Perm (b ++ (a ++ c)) (a ++ (b ++ c)) := List.perm_append_comm_assoc b a c

section
variable (G : Glob)
set_option maxHeartbeats 4000000 in
theorem f243 : ∀ (u : U), u.Short → Pure G Tryz.prog 243 [.agg u.cs] (.agg u.strip.cs) := by
  refine U.ind fun u ih hs => CopyR.freeze ?_
  have h0 := hs.2 u u.flat_self
  have hkl := hs.1.kids
  have hhl := h0.2.1
  have hwl := h0.2.2.1
  have hC := f51 G u hs
  rw [U.cs_eq u] at hC ⊢
  refine FnSpec.w c243 ?_
  unfold s243 r243
  (try simp -dsimp -implicitDefEqProofs only [EVz, seval, ↓reduceIte, reduceCtorEq, EV6, EV7])
  intro b1 hb1 b2 hb2
  have hb12 : ¬ b1 = b2 := by simp only [EVK] at hb2; exact fun e => hb2 e.symm
  have hb21 : ¬ b2 = b1 := fun e => hb12 e.symm
  (try simp -dsimp -implicitDefEqProofs only [EVz, seval, ↓reduceIte, reduceCtorEq, EV6, EV7, hb12, hb21])
  refine CALL_specN [] _ hC.v (AVleA.rfl' _) (SubN.refl _) ?_
  rintro _ _ ⟨bh, ch, σh, bw, cw, σw, bk, ck, σk, rfl, rfl, hOh, hOw, hOk⟩ hnd1
  simp only [List.append_eq, List.append_assoc] at hnd1
  have hK1 : b1 ∉ σk.keys := nd_app hnd1 (by simp [Store.keys])
  have hK2 : b2 ∉ σk.keys := nd_app hnd1 (by simp [Store.keys])
  have hnd2 := nd_appR hnd1
  have hW1 : b1 ∉ σw.keys := nd_app hnd2 (by simp [Store.keys])
  have hW2 : b2 ∉ σw.keys := nd_app hnd2 (by simp [Store.keys])
  have hnd3 := nd_appR hnd2
  have hH1 : b1 ∉ σh.keys := nd_app hnd3 (by simp [Store.keys])
  have hH2 : b2 ∉ σh.keys := nd_app hnd3 (by simp [Store.keys])
  (try simp -dsimp -implicitDefEqProofs only [EVz, seval, ↓reduceIte, reduceCtorEq, EV6, EV7, sget_app hK1, sget_app hK2, sset_app hK1, sset_app hK2, sget_app hW1, sget_app hW2, sset_app hW1, sset_app hW2, sget_app hH1, sget_app hH2, sset_app hH1, sset_app hH2, hb12, hb21, List.append_eq, List.append_assoc])
  intro b15 hb15
  refine ⟨[[.sc (.slice bh u.head.length ch)], [.sc (.slice bw u.words.length cw)]], rfl, by simp, rfl, ?_⟩
  (try simp -dsimp -implicitDefEqProofs only [EVz, seval, ↓reduceIte, reduceCtorEq, EV6, EV7, sget_app hK1, sget_app hK2, sset_app hK1, sset_app hK2, sget_app hW1, sget_app hW2, sset_app hW1, sset_app hW2, sget_app hH1, sget_app hH2, sset_app hH1, sset_app hH2, hb12, hb21, List.append_eq, List.append_assoc])
  have hnd0 : (Store.keys (σk ++ (σw ++ (σh ++ [(b2, AObj.cells 27 [.int .i64 0, .int .i64 0, .int .i64 0, .int .i64 0, .str [], .nil, .nil, .nil]), (b1, AObj.cells 27 [.int .i64 0, .int .i64 0, .int .i64 0, .int .i64 u.kind, .str u.label, .sc (.slice bh u.head.length ch), .sc (.slice bw u.words.length cw), .sc (.slice bk u.kids.length ck)])])))).Nodup := by simpa [Store.keys] using hnd1
  refine W_loop (ι := Nat × Store × Store) (fun p => p.1 ≤ 2 ∧ OpenS 64 4 ((if 0 < p.1 then u.head.map Wd.bare else u.head).map Wd.cs) bh ch p.2.1 ∧ OpenS 64 4 ((if 1 < p.1 then u.words.map Wd.bare else u.words).map Wd.cs) bw cw p.2.2 ∧ (Store.keys (σk ++ (p.2.2 ++ (p.2.1 ++ [(b2, AObj.cells 27 [.int .i64 0, .int .i64 0, .int .i64 0, .int .i64 0, .str [], .nil, .nil, .nil]), (b1, AObj.cells 27 [.int .i64 0, .int .i64 0, .int .i64 0, .int .i64 u.kind, .str u.label, .sc (.slice bh u.head.length ch), .sc (.slice bw u.words.length cw), .sc (.slice bk u.kids.length ck)])])))).Nodup)
    (fun p => 2 - p.1) (fun p => [(1, .sc (.pointer (some ⟨b1, 0, none⟩))), (2, .sc (.pointer (some ⟨b2, 0, none⟩))), (15, .own (some b15) 24 1 [[.sc (.slice bh u.head.length ch)], [.sc (.slice bw u.words.length cw)]]), (16, .int .i64 2), (17, .int .i64 p.1)]) (fun p => σk ++ (p.2.2 ++ (p.2.1 ++ [(b2, AObj.cells 27 [.int .i64 0, .int .i64 0, .int .i64 0, .int .i64 0, .str [], .nil, .nil, .nil]), (b1, AObj.cells 27 [.int .i64 0, .int .i64 0, .int .i64 0, .int .i64 u.kind, .str u.label, .sc (.slice bh u.head.length ch), .sc (.slice bw u.words.length cw), .sc (.slice bk u.kids.length ck)])]))) (0, σh, σw) ⟨Nat.zero_le _, hOh, hOw, hnd0⟩ (Weak.sub ((SubN.refl _).tail _)) ?_
  rintro ⟨j, th, tw⟩ ⟨hj, hth, htw, hnd⟩
  simp only at hth htw hnd ⊢
  have hjj : j = 0 ∨ j = 1 ∨ j = 2 := by omega
  rcases hjj with rfl | rfl | rfl
  · simp only [Nat.lt_irrefl, if_false, show ¬ (1 < 0) by omega] at hth htw
    (try simp -dsimp -implicitDefEqProofs only [EVz, seval, ↓reduceIte, reduceCtorEq, EV6, EV7, List.append_eq])
    have hwk : ∀ (i : Nat) (x : Wd), True := fun _ _ => trivial
    refine W_list (ι := Store) u.head (fun i r c => OpenS 64 4 (((u.head.take i).map Wd.bare ++ u.head.drop i).map Wd.cs) bh ch c ∧ (Store.keys (c ++ (σk ++ (tw ++ [(b2, AObj.cells 27 [.int .i64 0, .int .i64 0, .int .i64 0, .int .i64 0, .str [], .nil, .nil, .nil]), (b1, AObj.cells 27 [.int .i64 0, .int .i64 0, .int .i64 0, .int .i64 u.kind, .str u.label, .sc (.slice bh u.head.length ch), .sc (.slice bw u.words.length cw), .sc (.slice bk u.kids.length ck)])])))).Nodup)
      (fun i c => [(1, .sc (.pointer (some ⟨b1, 0, none⟩))), (2, .sc (.pointer (some ⟨b2, 0, none⟩))), (15, .own (some b15) 24 1 [[.sc (.slice bh u.head.length ch)], [.sc (.slice bw u.words.length cw)]]), (16, .int .i64 2), (17, .int .i64 0), (4, .sc (.slice bh u.head.length ch)), (22, .int .i64 u.head.length), (23, .int .i64 i)])
      (fun i c => c ++ (σk ++ (tw ++ [(b2, AObj.cells 27 [.int .i64 0, .int .i64 0, .int .i64 0, .int .i64 0, .str [], .nil, .nil, .nil]), (b1, AObj.cells 27 [.int .i64 0, .int .i64 0, .int .i64 0, .int .i64 u.kind, .str u.label, .sc (.slice bh u.head.length ch), .sc (.slice bw u.words.length cw), .sc (.slice bk u.kids.length ck)])]))) th ⟨by simpa using hth, (SubN.perm perm_in).2 hnd⟩ (Weak.sub (SubN.perm perm_in)) (by omega) (fun i x r c hok hx hw => ?_) (fun c hok hn => ?_)
    · obtain ⟨hO, hN⟩ := hok
      rcases hO with ⟨h0, _, _⟩ | ⟨b, pad, rfl, rfl, hle, hcm, hrl, hln⟩
      · exfalso
        have := congrArg List.length h0
        have h9 := hx.lt
        simp at this
        omega
      · have hrl0 := bare_len hx
        have hi : i < (((u.head.take i).map Wd.bare ++ u.head.drop i).map Wd.cs).length := by rw [hrl0]; exact hx.lt
        (try simp -dsimp -implicitDefEqProofs only [EVz, seval, ↓reduceIte, reduceCtorEq, EV6, EV7, hx.yes, hx.le0, hx.lt', hw, Nat.zero_add, List.append_eq])
        refine ⟨by rw [hln]; rw [hrl0] at hle; have := hx.lt; omega, ?_⟩
        rw [rows_splice (sz := 4) (off := 1) (c := [.int .i64 0, .int .i64 0, .int .i64 0]) (by decide) hrl hi, bare_step hx hi]
        (try simp -dsimp -implicitDefEqProofs only [EVz, seval, ↓reduceIte, reduceCtorEq, EV6, EV7, hw, List.append_eq])
        refine LK_next hx [(b, .cells 64 ((((u.head.take (i + 1)).map Wd.bare ++ u.head.drop (i + 1)).map Wd.cs).flatten ++ pad))] ⟨.inr ⟨b, pad, rfl, rfl, ?_, hcm, rows4 _, ?_⟩, by simpa [Store.keys] using hN⟩ (Weak.rfl' _ _)
        · rw [bare_len' hx]; rw [hrl0] at hle; exact hle
        · rw [← hln, List.length_append, List.length_append, flat_len _ (rows4 _), flat_len _ (rows4 _), bare_len' hx, hrl0]
    · obtain ⟨hO, hN⟩ := hok
      rw [List.take_length, List.drop_length, List.append_nil] at hO
      (try simp -dsimp -implicitDefEqProofs only [EVz, seval, ↓reduceIte, reduceCtorEq, EV6, EV7, hn])
      refine ⟨(1, c, tw), ⟨by omega, by simpa using hO, by simpa using htw, (SubN.perm perm_in.symm).2 hN⟩, by simp, ?_⟩
      exact Weak.sub (SubN.perm perm_in.symm)
  · simp only [Nat.lt_irrefl, if_false, show (0 < 1) by omega, if_true] at hth htw
    (try simp -dsimp -implicitDefEqProofs only [EVz, seval, ↓reduceIte, reduceCtorEq, EV6, EV7, List.append_eq])
    have hwk : ∀ (i : Nat) (x : Wd), True := fun _ _ => trivial
    refine W_list (ι := Store) u.words (fun i r c => OpenS 64 4 (((u.words.take i).map Wd.bare ++ u.words.drop i).map Wd.cs) bw cw c ∧ (Store.keys (c ++ (σk ++ (th ++ [(b2, AObj.cells 27 [.int .i64 0, .int .i64 0, .int .i64 0, .int .i64 0, .str [], .nil, .nil, .nil]), (b1, AObj.cells 27 [.int .i64 0, .int .i64 0, .int .i64 0, .int .i64 u.kind, .str u.label, .sc (.slice bh u.head.length ch), .sc (.slice bw u.words.length cw), .sc (.slice bk u.kids.length ck)])])))).Nodup)
      (fun i c => [(1, .sc (.pointer (some ⟨b1, 0, none⟩))), (2, .sc (.pointer (some ⟨b2, 0, none⟩))), (15, .own (some b15) 24 1 [[.sc (.slice bh u.head.length ch)], [.sc (.slice bw u.words.length cw)]]), (16, .int .i64 2), (17, .int .i64 1), (4, .sc (.slice bw u.words.length cw)), (22, .int .i64 u.words.length), (23, .int .i64 i)])
      (fun i c => c ++ (σk ++ (th ++ [(b2, AObj.cells 27 [.int .i64 0, .int .i64 0, .int .i64 0, .int .i64 0, .str [], .nil, .nil, .nil]), (b1, AObj.cells 27 [.int .i64 0, .int .i64 0, .int .i64 0, .int .i64 u.kind, .str u.label, .sc (.slice bh u.head.length ch), .sc (.slice bw u.words.length cw), .sc (.slice bk u.kids.length ck)])]))) tw ⟨by simpa using htw, (SubN.perm perm_mid).2 hnd⟩ (Weak.sub (SubN.perm perm_mid)) (by omega) (fun i x r c hok hx hw => ?_) (fun c hok hn => ?_)
    · obtain ⟨hO, hN⟩ := hok
      rcases hO with ⟨h0, _, _⟩ | ⟨b, pad, rfl, rfl, hle, hcm, hrl, hln⟩
      · exfalso
        have := congrArg List.length h0
        have h9 := hx.lt
        simp at this
        omega
      · have hrl0 := bare_len hx
        have hi : i < (((u.words.take i).map Wd.bare ++ u.words.drop i).map Wd.cs).length := by rw [hrl0]; exact hx.lt
        (try simp -dsimp -implicitDefEqProofs only [EVz, seval, ↓reduceIte, reduceCtorEq, EV6, EV7, hx.yes, hx.le0, hx.lt', hw, Nat.zero_add, List.append_eq])
        refine ⟨by rw [hln]; rw [hrl0] at hle; have := hx.lt; omega, ?_⟩
        rw [rows_splice (sz := 4) (off := 1) (c := [.int .i64 0, .int .i64 0, .int .i64 0]) (by decide) hrl hi, bare_step hx hi]
        (try simp -dsimp -implicitDefEqProofs only [EVz, seval, ↓reduceIte, reduceCtorEq, EV6, EV7, hw, List.append_eq])
        refine LK_next hx [(b, .cells 64 ((((u.words.take (i + 1)).map Wd.bare ++ u.words.drop (i + 1)).map Wd.cs).flatten ++ pad))] ⟨.inr ⟨b, pad, rfl, rfl, ?_, hcm, rows4 _, ?_⟩, by simpa [Store.keys] using hN⟩ (Weak.rfl' _ _)
        · rw [bare_len' hx]; rw [hrl0] at hle; exact hle
        · rw [← hln, List.length_append, List.length_append, flat_len _ (rows4 _), flat_len _ (rows4 _), bare_len' hx, hrl0]
    · obtain ⟨hO, hN⟩ := hok
      rw [List.take_length, List.drop_length, List.append_nil] at hO
      (try simp -dsimp -implicitDefEqProofs only [EVz, seval, ↓reduceIte, reduceCtorEq, EV6, EV7, hn])
      refine ⟨(2, th, c), ⟨by omega, by simpa using hth, by simpa using hO, (SubN.perm perm_mid.symm).2 hN⟩, by simp, ?_⟩
      exact Weak.sub (SubN.perm perm_mid.symm)
  · simp only [show (0 < 2) by omega, show (1 < 2) by omega, if_true] at hth htw
    have hT0 := nd_appR hnd
    have hT1 : b1 ∉ tw.keys := nd_app hT0 (by simp [Store.keys])
    have hT2 : b2 ∉ tw.keys := nd_app hT0 (by simp [Store.keys])
    have hT3 := nd_appR hT0
    have hT4 : b1 ∉ th.keys := nd_app hT3 (by simp [Store.keys])
    have hT5 : b2 ∉ th.keys := nd_app hT3 (by simp [Store.keys])
    (try simp -dsimp -implicitDefEqProofs only [EVz, seval, ↓reduceIte, reduceCtorEq, EV6, EV7, sget_app hT1, sget_app hT2, sset_app hT1, sset_app hT2, sget_app hT4, sget_app hT5, sset_app hT4, sset_app hT5, hb12, hb21, List.append_eq, List.append_assoc, sget_app hK1, sget_app hK2, sset_app hK1, sset_app hK2])
    refine W_list (ι := Store) u.kids (fun i r c => OpenS 27 8 (((u.kids.take i).map U.strip ++ u.kids.drop i).map U.cs) bk ck c ∧ (Store.keys (c ++ (tw ++ (th ++ [(b2, AObj.cells 27 [.int .i64 0, .int .i64 0, .int .i64 0, .int .i64 0, .str [], .nil, .nil, .nil]), (b1, AObj.cells 27 [.int .i64 0, .int .i64 0, .int .i64 0, .int .i64 u.kind, .str u.label, .sc (.slice bh u.head.length ch), .sc (.slice bw u.words.length cw), .sc (.slice bk u.kids.length ck)])])))).Nodup)
      (fun i c => [(1, .sc (.pointer (some ⟨b1, 0, none⟩))), (2, .sc (.pointer (some ⟨b2, 0, none⟩))), (35, .int .i64 u.kids.length), (36, .int .i64 i)]) (fun i c => c ++ (tw ++ (th ++ [(b2, AObj.cells 27 [.int .i64 0, .int .i64 0, .int .i64 0, .int .i64 0, .str [], .nil, .nil, .nil]), (b1, AObj.cells 27 [.int .i64 0, .int .i64 0, .int .i64 0, .int .i64 u.kind, .str u.label, .sc (.slice bh u.head.length ch), .sc (.slice bw u.words.length cw), .sc (.slice bk u.kids.length ck)])]))) σk ⟨by simpa using hOk, hnd⟩ (Weak.rfl' _ _) (by omega) (fun i x r c hok hx hw => ?_) (fun c hok hn => ?_)
    · obtain ⟨hO, hN⟩ := hok
      rcases hO with ⟨h0, _, _⟩ | ⟨b, pad, rfl, rfl, hle, hcm, hrl, hln⟩
      · exfalso
        have := congrArg List.length h0
        have h9 := hx.lt
        simp at this
        omega
      · have hm0 := mix_len (g := U.strip) (f := U.cs) hx
        have hi : i < (((u.kids.take i).map U.strip ++ u.kids.drop i).map U.cs).length := by rw [hm0]; exact hx.lt
        have hbb : ¬ b = b1 := by
          intro e
          subst e
          exact nd_app hN (b := b) (by simp [Store.keys]) (by simp [Store.keys])
        have htk := rows_take (pad := pad) hrl hi
        rw [mix_get hx hi] at htk
        have hroom : 8 ≤ ((List.map U.cs (List.map U.strip (List.take i u.kids) ++ List.drop i u.kids)).flatten ++ pad).length - i * 8 := by rw [hln]; rw [hm0] at hle; have := hx.lt; omega
        have hsp := rows_splice (sz := 8) (off := 0) (c := x.strip.cs) (by rw [U.cs_len]; omega) (pad := pad) hrl hi
        rw [strip_step hx hi, Nat.add_zero] at hsp
        have hst := ih x hx.mem (hs.kid hx.mem)
        (repeat' (first | (with_reducible refine And.intro (by omega) ?_) | (with_reducible refine CALL_pure (hst) ?_) | simp -dsimp -implicitDefEqProofs only [EVz, seval, ↓reduceIte, reduceCtorEq, EV6, EV7, hx.yes, hx.le0, hx.lt', hw, hbb, hb12, hb21, sget_app hT1, sget_app hT2, sget_app hT4, sget_app hT5, Nat.zero_add, List.append_eq, htk, hsp, List.length_drop, U.cs_len] | (with_reducible refine both_case ?_ ?_) | (with_reducible refine same_case ?_) | fail))
        all_goals
          (try rw [hsp])
          refine LK_next hx [(b, .cells 27 ((((u.kids.take (i + 1)).map U.strip ++ u.kids.drop (i + 1)).map U.cs).flatten ++ pad))] ⟨.inr ⟨b, pad, rfl, rfl, ?_, hcm, rows8 _, ?_⟩, by simpa [Store.keys] using hN⟩ (Weak.rfl' _ _)
          · rw [mix_len' hx]; rw [hm0] at hle; exact hle
          · rw [← hln, List.length_append, List.length_append, flat_len _ (rows8 _), flat_len _ (rows8 _), mix_len' hx, hm0]
    · obtain ⟨hO, hN⟩ := hok
      rw [List.take_length, List.drop_length, List.append_nil] at hO
      have hC1 : b1 ∉ c.keys := nd_app hN (by simp [Store.keys])
      have hC2 : b2 ∉ c.keys := nd_app hN (by simp [Store.keys])
      (try simp -dsimp -implicitDefEqProofs only [EVz, seval, ↓reduceIte, reduceCtorEq, EV6, EV7, hn, sget_app hT1, sget_app hT2, sset_app hT1, sset_app hT2, sget_app hT4, sget_app hT5, sset_app hT4, sset_app hT5, hb12, hb21, List.append_eq, List.append_assoc, sget_app hC1, sget_app hC2, sset_app hC1, sset_app hC2])
      refine RET.mk' (σ' := c ++ (tw ++ th)) (SubN.app (SubN.app SubN.appL)) ⟨bh, ch, th, bw, cw, tw, bk, ck, c, ?_, rfl, ?_, ?_, ?_⟩
      · rw [U.strip_eq]; simp
      · rw [U.strip_eq]; exact hth
      · rw [U.strip_eq]; exact htw
      · rw [U.strip_eq]; exact hO
end
end Go.Av
end

section
namespace Go.Av
open Go Go.RowKit Go.Proofs
set_option linter.unusedSimpArgs false
set_option linter.unusedVariables false

theorem U.lone_short {u : U} (hs : u.Short) : u.lone.Short := by
  have h0 := hs.2 u u.flat_self
  have hf := (U.fit_eq u).1 hs.1.1
  have e : u.lone.flat = [u.lone] := by rw [U.flat_eq]; show _ :: U.flats [] = _; rw [flats_nil]
  refine ⟨⟨(U.fit_eq _).2 ⟨hf.1, hf.2.1, hf.2.2.1, by simp [U.lone], by simp [U.lone]⟩, by rw [e]; simp⟩, ?_⟩
  intro x hx
  rw [e, List.mem_singleton] at hx
  subst hx
  exact h0
theorem fit_strip : ∀ u : U, u.fit → u.strip.fit := by
  refine U.ind fun u ih hf => ?_
  obtain ⟨a, ⟨b, b2⟩, ⟨c, c2⟩, d, e⟩ := (U.fit_eq u).1 hf
  rw [U.strip_eq]
  refine (U.fit_eq _).2 ⟨a, ⟨by simpa using b, ?_⟩, ⟨by simpa using c, ?_⟩, by simpa using d, ?_⟩
  · intro x hx
    obtain ⟨w, hw, rfl⟩ := List.mem_map.1 hx
    exact b2 w hw
  · intro x hx
    obtain ⟨w, hw, rfl⟩ := List.mem_map.1 hx
    exact c2 w hw
  · intro x hx
    obtain ⟨k, hk, rfl⟩ := List.mem_map.1 hx
    exact ih k hk (e k hk)
theorem strip_short {u : U} (hs : u.Short) : u.strip.Short := by
  refine ⟨⟨fit_strip u hs.1.1, by rw [flat_strip, List.length_map]; exact hs.1.2⟩, ?_⟩
  intro x hx
  rw [flat_strip] at hx
  obtain ⟨y, hy, rfl⟩ := List.mem_map.1 hx
  obtain ⟨h1, h2, h3, h4, h5⟩ := hs.2 y hy
  rw [U.strip_eq]
  refine ⟨h1, by simpa using h2, by simpa using h3, ?_, ?_⟩
  · intro w hw
    obtain ⟨w', hw', rfl⟩ := List.mem_map.1 hw
    exact h4 w' hw'
  · intro w hw
    obtain ⟨w', hw', rfl⟩ := List.mem_map.1 hw
    exact h5 w' hw'
theorem U.Short.node {u x : U} (hs : u.Short) (hx : x ∈ u.flat) : x.Short := by
  induction u using U.ind with
  | h u ih =>
    rw [U.flat_eq] at hx
    rcases List.mem_cons.1 hx with rfl | hx
    · exact hs
    · obtain ⟨k, hk, hx⟩ := flats_in hx
      exact ih k hk (hs.kid hk) hx

theorem repeat2 (n : Nat) : Lib.repeatL [32, 32] n = List.replicate (2 * n) 32 := by
  induction n with
  | zero => rfl
  | succ n ih => rw [Lib.repeatL, ih, Nat.mul_add]; simp [List.replicate_succ]
theorem rows_cells {τ : Store} {w : World} {b : Nat} : ∀ (xs : List (List UInt8)) (i : Nat), RepRows τ w ⟨b, 0, none⟩ 1 i (xs.map srow) → ∀ (j : Nat) x, xs[j]? = some x → w.cell? ⟨b, i + j, none⟩ = some (.string ⟨⟨x⟩⟩)
  | [], i, _, j, x, hx => by simp at hx
  | y :: xs, i, h, j, x, hx => by
    simp only [srow, List.map_cons, RepRows, RepAt, Rep] at h
    obtain ⟨_, ⟨⟨u, hF, _, rfl⟩, _⟩, hr⟩ := h
    cases j with
    | zero =>
      simp at hx
      subst hx
      have e : (⟨b, 0, none⟩ : Addr).add (i * 1) = ⟨b, i, none⟩ := by unfold Addr.add; by_cases hi : i = 0 <;> simp [hi]
      have := hF.1
      rw [e] at this
      exact this
    | succ j =>
      have := rows_cells xs (i + 1) hr j x (by simpa using hx)
      rw [show i + (j + 1) = i + 1 + j by omega]
      exact this

section
variable (G : Glob)

theorem f260 (n : Nat) (hn : n ≤ 8) : Pure G Tryz.prog 260 [.str [32, 32], .int .i64 n] (.str (List.replicate (2 * n) 32)) := by
  refine Pure.of_calls Tryz.func260 (by kernel_rfl) (by kernel_rfl) fun τ w vs hS hA => ?_
  obtain ⟨u, v, rfl, h1, h2⟩ := vs_two hA
  simp only [Rep] at h1 h2
  subst h1 h2
  refine ⟨.string ⟨⟨List.replicate (2 * n) 32⟩⟩, fun _ _ => by simp only [Rep], ?_⟩
  have hsz : (⟨⟨[32, 32]⟩⟩ : ByteArray).size = 2 := rfl
  refine (Tryz.strings_Repeat ⟨⟨[32, 32]⟩⟩ n w (by omega) (by rw [hsz]; omega)).mono ?_
  rintro e w' ⟨rfl, hB⟩
  exact ⟨by rw [← repeat2], hB⟩

theorem f213 (g : Option Nat) (xs : List (List UInt8)) (sep : List UInt8) (hn : xs.length ≤ 1000000) (hl : (Lib.join xs sep).length ≤ 140737488355328) : Pure G Tryz.prog 213 [.own g 9 1 (xs.map srow), .str sep] (.str (Lib.join xs sep)) := by
  refine Pure.of_calls Tryz.func213 (by kernel_rfl) (by kernel_rfl) fun τ w vs hS hA => ?_
  obtain ⟨u, v, rfl, h1, h2⟩ := vs_two hA
  simp only [Rep] at h2
  subst h2
  refine ⟨.string ⟨⟨Lib.join xs sep⟩⟩, fun _ _ => by simp only [Rep], ?_⟩
  have none_ : ∀ a c, xs = [] → Calls Tryz.prog 213 #[.slice a 0 c, .string ⟨⟨sep⟩⟩] w fun e w' => e = .returned (.string ⟨⟨Lib.join xs sep⟩⟩) ∧ Below w.heap.size w w' := by
    rintro a c rfl
    refine (Tryz.strings_Join_none a c ⟨⟨sep⟩⟩ w).mono ?_
    rintro e w' ⟨rfl, rfl⟩
    exact ⟨rfl, Below.refl _ _⟩
  cases g with
  | none =>
    simp only [Rep] at h1
    obtain ⟨rfl, hx⟩ := h1
    exact none_ _ _ (by simpa using hx)
  | some b =>
    simp only [Rep] at h1
    obtain ⟨cap, rfl, hc, hm, hsh, hr⟩ := h1
    rw [List.length_map] at hc ⊢
    by_cases hx : xs = []
    · subst hx
      exact none_ _ _ rfl
    · have e1 : (xs.map (fun x => (⟨⟨x⟩⟩ : ByteArray))).map (·.data.toList) = xs := by rw [List.map_map]; exact List.map_id xs
      have hb : b < w.heap.size := by
        rcases Nat.lt_or_ge b w.heap.size with h | h
        · exact h
        · have : w.heap[b]? = none := Array.getElem?_eq_none h
          simp [World.shape?, this] at hsh
      have hcells : ∀ (j : Nat) x, (xs.map (fun x => (⟨⟨x⟩⟩ : ByteArray)))[j]? = some x → w.cell? ⟨b, 0 + j, none⟩ = some (.string x) := by
        intro j x hj
        simp only [List.getElem?_map, Option.map_eq_some_iff] at hj
        obtain ⟨y, hy, rfl⟩ := hj
        exact rows_cells xs 0 hr j y hy
      have h := Tryz.strings_Join b 0 cap (xs.map (fun x => (⟨⟨x⟩⟩ : ByteArray))) ⟨⟨sep⟩⟩ w hcells hb (by simp; omega) (by simpa using hc) (by rw [e1]; exact hl)
      rw [e1, List.length_map] at h
      exact h

theorem f261 (s : List UInt8) (l : List Wd) (hs : s.length ≤ 1000000) (hr : rowOk l = true) : Pure G Tryz.prog 261 [.str s, .lst 4 (l.map Wd.cs)] (.str (s ++ wordsT l)) := by
  have hl := row_len hr
  refine Pure.w c261 fun R hR => ?_
  unfold s261 r261
  (repeat' (first | (with_reducible (first | refine split_case (fun h => ?_) (fun h => ?_) | refine gd_case (fun h => ?_) (fun h => ?_)) <;> (try simp only [Da, Db, Dc, Dw, De, Df, Dg, Dh] at h)) | (with_reducible refine And.intro (by omega) ?_) | simp -dsimp -implicitDefEqProofs only [EVz, seval, ↓reduceIte, reduceCtorEq, EV6, EV7, List.length_append, List.length_cons, List.length_nil, hx.yes, hx.le0, hx.lt', hx.get, hx.row, hw] | simp -dsimp -implicitDefEqProofs only [EVz, seval, ↓reduceIte, reduceCtorEq, EV6, EV7, List.length_append, List.length_cons, List.length_nil, hn] | simp -dsimp -implicitDefEqProofs only [EVz, seval, ↓reduceIte, reduceCtorEq, EV6, EV7, List.length_append, List.length_cons, List.length_nil] | (with_reducible intro blk hblk; (try (have hnx := hblk; simp only [EVK] at hnx; (have hne := hnx)))) | (refine W_list (ι := List UInt8) (l) (fun i r c => s ++ wordsT l = c ++ wordsT r ∧ c.length ≤ s.length + i * 26) (fun i c => [(0, .str c), (7, .lst 4 (l.map Wd.cs)), (8, .int .i64 l.length), (9, .int .i64 i)]) (fun _ _ => []) (s) (by ((simp; done))) (Weak.rfl' _ _) (by omega) (fun i x r c hok hx hw => ?_) (fun c hok hn => ?_) <;> (try (obtain ⟨hp, hp2⟩ := row_word hr hx.mem; have hil := hx.lt)) ) | (refine LK_next hx _ ?_ (Weak.sub (SubN.nil _))) | fail))
  · rw [hok.1]
    have e : escT x.text = 92 :: x.text := by unfold escT; rw [if_pos]; right; exact UInt8.toNat_inj.1 (by show _ = 92; omega)
    exact ⟨by simp [wordsT, e], by omega⟩
  · rename_i h2
    rw [hok.1]
    have e : escT x.text = x.text := by
      unfold escT
      rw [if_neg]
      rintro (h3 | h3)
      · exact h2 (by rw [h3]; rfl)
      · exact h (by rw [h3]; rfl)
    exact ⟨by simp [wordsT, e], by omega⟩
  · rw [hok.1]
    have e : escT x.text = 92 :: x.text := by unfold escT; rw [if_pos]; left; exact UInt8.toNat_inj.1 (by show _ = 124; omega)
    exact ⟨by simp [wordsT, e], by omega⟩
  · exact RET.eq hR (by rw [hok.1]; simp [wordsT])
end

theorem lone_cs (u : U) : u.lone.cs = [.int .i64 0, .int .i64 0, .int .i64 0, .int .i64 u.kind, .str u.label, .lst 4 (u.head.map Wd.cs), .lst 4 (u.words.map Wd.cs), .lst 8 []] := by rw [U.cs_eq]; rfl

section
variable (G : Glob) (hG : GOk G)
include hG

theorem f259 (u : U) (d : Int) (hs : u.Short) : Pure G Tryz.prog 259 [.agg u.cs, .int .i64 d] (.bool ((decide (0 ≤ d) && decide (d ≤ 8)) && alone11 u)) := by
  have hS := f243 G u.lone (U.lone_short hs)
  have hV := f34 G hG u.lone.strip (strip_short (U.lone_short hs))
  rw [tree_lone] at hV
  rw [lone_cs] at hS
  rw [U.cs_eq u]
  refine Pure.w c259 fun R hR => ?_
  unfold s259 r259
  (repeat' (first | (with_reducible (refine gd_case (fun h => ?_) (fun h => ?_)) <;> (try simp only [Da, Db, Dc, Dw, De, Df, Dg, Dh] at h)) | (with_reducible refine CALL_pure (hV) ?_) | simp -dsimp -implicitDefEqProofs only [EVz, seval, ↓reduceIte, reduceCtorEq, EV6, EV7] | (with_reducible intro blk hblk; (try (have hnx := hblk; simp only [EVK] at hnx; (have hne := hnx)))) | (refine CALL_pure_le hS ⟨.inr ⟨.inl rfl, .inl rfl, .inl rfl, .inl rfl, .inl rfl, .inl rfl, .inl rfl, .inr rfl, trivial⟩, trivial⟩ ?_) | fail))
  all_goals (refine RET.eq hR (congrArg AV.bool ?_); first | (simp [*]; done) | (rw [decide_eq_false (p := 0 ≤ d) (by omega)]; rfl) | (rw [decide_eq_false (p := d ≤ 8) (by omega), Bool.and_false]; rfl))

theorem f245 (u : U) (n : Nat) (hs : u.Short) (hn : n ≤ 1000000) : Pure G Tryz.prog 245 [.agg u.cs, .int .i64 n] (.str (lineOf u n)) := by
  have hm := f259 G hG u n hs
  have hkn := f83 G hG u.kind
  refine Pure.w c245 fun R hR => ?_
  unfold s245 r245
  by_cases ha : alone11 u = true ∧ n ≤ 8
  · obtain ⟨a0, a7, ah, aw, al⟩ := alone_facts ha.1
    have b1 := wordsT_row ah
    have b2 := wordsT_row aw
    have b3 := kindText_len u.kind
    have hrp := f260 G n ha.2
    rw [ha.1, Bool.and_true, show (decide ((0 : Int) ≤ n) && decide ((n : Int) ≤ 8)) = true by simp; omega] at hm
    rw [if_pos ⟨a0, a7⟩] at hkn
    have ea : lineOf u n = lineT u n := by unfold lineOf; rw [if_pos ⟨ha.2, ha.1⟩]
    rw [ea] at hR
    have hp1 := fun s hs => f261 G s u.head hs ah
    have hp2 := fun s hs => f261 G s u.words hs aw
    (repeat' (first | (with_reducible (refine split_case (fun h => ?_) (fun h => ?_)) <;> (try simp only [Da, Db, Dc, Dw, De, Df, Dg, Dh] at h)) | (with_reducible refine And.intro (by omega) ?_) | (with_reducible refine CALL_pure (hm) ?_) | (with_reducible refine CALL_pure (hkn) ?_) | (with_reducible refine CALL_pure (hrp) ?_) | (with_reducible refine CALL_pure (hp1 _ (by simp; omega)) ?_) | (with_reducible refine CALL_pure (hp2 _ (by simp; omega)) ?_) | simp -dsimp -implicitDefEqProofs only [EVz, seval, ↓reduceIte, reduceCtorEq, EV6, EV7, List.length_append, List.length_cons, List.length_nil, List.length_replicate] | fail))
    all_goals (refine RET.eq hR (congrArg AV.str ?_); unfold lineT; (repeat first | rw [if_pos (by omega)] | rw [if_neg (by omega)]); simp; done)
  · have e : ((decide ((0 : Int) ≤ n) && decide ((n : Int) ≤ 8)) && alone11 u) = false := by
      rw [Bool.eq_false_iff]
      intro h
      simp at h
      exact ha ⟨h.2, by omega⟩
    rw [e] at hm
    have ea : lineOf u n = [] := by unfold lineOf; rw [if_neg (fun h => ha ⟨h.2, h.1⟩)]
    rw [ea] at hR
    (repeat' (first | (with_reducible refine CALL_pure (hm) ?_) | simp -dsimp -implicitDefEqProofs only [EVz, seval, ↓reduceIte, reduceCtorEq, EV6, EV7] | fail))
    (all_goals ((exact RET.eq hR rfl)))
end
end Go.Av
end
