/-
  ENACT, M15: rows cloned into cells of the callee's own; rows cut out and put in.
-/
import Derived.Test.YtcecmifknojgeaaGreatDoorXC4
import Derived.Test.YtcecmifknojgeaaGreatDoorXC5
import Derived.Test.YtcecmifknojgeaaGreatDoorXC6
import Derived.Test.YtcecmifknojgeaaGreatDoorXM1toXAv28
import Derived.Test.YtcecmifknojgeaaGreatDoorXE12toXL27
import Derived.Test.YtcecmifknojgeaaGreatDoorXAv34toXAv36
namespace Go.Av
open Go Go.RowKit Go.Proofs
set_option linter.unusedSimpArgs false
set_option linter.unusedVariables false

section
variable (G : Glob)
theorem f168 (rows : List (List AV)) (hsz : ∀ r ∈ rows, r.length = 8) (hl : rows.length < 1000000) : FnSpec G Tryz.prog 168 [.lst 8 rows] [] (fun r σ => OpenL 27 8 rows r σ) := by
  refine FnSpec.w c168 ?_
  unfold s168 r168
  simp -dsimp -implicitDefEqProofs only [EV1, EV2, EV3, EV4, EV5, Option.map_some, decide_true, decide_false, seval, ↓reduceIte, reduceCtorEq, eq_self]
  intro bb hbb
  refine split_case (fun h => ?_) (fun h => ?_)
  · simp -dsimp -implicitDefEqProofs only [EV1, EV2, EV3, EV4, EV5, Option.map_some, decide_true, decide_false, seval, ↓reduceIte, reduceCtorEq, eq_self]
    have h0 : rows = [] := by
      rcases Classical.em (rows = []) with h1 | h1
      · exact h1
      · rw [hbb h1] at h; cases h
    subst h0
    exact RET.le (y := .sc (.slice none 0 0)) (Or.inl (Or.inr rfl)) (SubN.refl _) (openS_nil (.inl rfl))
  · simp -dsimp -implicitDefEqProofs only [EV1, EV2, EV3, EV4, EV5, Option.map_some, decide_true, decide_false, seval, ↓reduceIte, reduceCtorEq, eq_self]
    refine RAW_buildS0 (e := 27) (n := 8) (by kernel_rfl) (by kernel_rfl) (fun v hv => ?_)
    simp -dsimp -implicitDefEqProofs only [EV1, EV2, EV3, EV4, EV5, Option.map_some, decide_true, decide_false, seval, ↓reduceIte, reduceCtorEq, eq_self]
    refine RAW_appendZ (e := 27) (e' := 27) (sz := 8) (bytes := 120) (rows := []) (ys := rows) (g := none) (xv := .sc v) (by kernel_rfl) (by kernel_rfl) (by kernel_rfl) (by kernel_rfl) (by decide) (by decide) rfl (.inl ⟨rfl, rfl, .inr ⟨v, rfl, hv⟩⟩) ?_ ?_ ?_ ?_
    · exact ⟨rfl, rfl⟩
    · simp; omega
    · intro _ h0
      subst h0
      simp -dsimp -implicitDefEqProofs only [EV1, EV2, EV3, EV4, EV5, Option.map_some, decide_true, decide_false, seval, ↓reduceIte, reduceCtorEq, eq_self]
      exact RET.mk' (SubN.refl _) (openS_nil hv)
    · intro b cap pad hb h1 h2 h3 h4
      simp -dsimp -implicitDefEqProofs only [EV1, EV2, EV3, EV4, EV5, Option.map_some, decide_true, decide_false, seval, ↓reduceIte, reduceCtorEq, eq_self]
      simp only [List.nil_append] at *
      exact RET.mk' (SubN.refl _) (OpenL.mk rfl h1 h2 h3 h4)
theorem f175 (rows : List (List AV)) (hsz : ∀ r ∈ rows, r.length = 1) (hl : rows.length < 1000000) : FnSpec G Tryz.prog 175 [.lst 1 rows] [] (fun r σ => OpenL 3 1 rows r σ) := by
  refine FnSpec.w c175 ?_
  unfold s175 r175
  simp -dsimp -implicitDefEqProofs only [EV1, EV2, EV3, EV4, EV5, Option.map_some, decide_true, decide_false, seval, ↓reduceIte, reduceCtorEq, eq_self]
  intro bb hbb
  refine split_case (fun h => ?_) (fun h => ?_)
  · simp -dsimp -implicitDefEqProofs only [EV1, EV2, EV3, EV4, EV5, Option.map_some, decide_true, decide_false, seval, ↓reduceIte, reduceCtorEq, eq_self]
    have h0 : rows = [] := by
      rcases Classical.em (rows = []) with h1 | h1
      · exact h1
      · rw [hbb h1] at h; cases h
    subst h0
    exact RET.le (y := .sc (.slice none 0 0)) (Or.inl (Or.inr rfl)) (SubN.refl _) (openS_nil (.inl rfl))
  · simp -dsimp -implicitDefEqProofs only [EV1, EV2, EV3, EV4, EV5, Option.map_some, decide_true, decide_false, seval, ↓reduceIte, reduceCtorEq, eq_self]
    refine RAW_buildS0 (e := 3) (n := 1) (by kernel_rfl) (by kernel_rfl) (fun v hv => ?_)
    simp -dsimp -implicitDefEqProofs only [EV1, EV2, EV3, EV4, EV5, Option.map_some, decide_true, decide_false, seval, ↓reduceIte, reduceCtorEq, eq_self]
    refine RAW_appendZ (e := 3) (e' := 3) (sz := 1) (bytes := 8) (rows := []) (ys := rows) (g := none) (xv := .sc v) (by kernel_rfl) (by kernel_rfl) (by kernel_rfl) (by kernel_rfl) (by decide) (by decide) rfl (.inl ⟨rfl, rfl, .inr ⟨v, rfl, hv⟩⟩) ?_ ?_ ?_ ?_
    · exact ⟨rfl, rfl⟩
    · simp; omega
    · intro _ h0
      subst h0
      simp -dsimp -implicitDefEqProofs only [EV1, EV2, EV3, EV4, EV5, Option.map_some, decide_true, decide_false, seval, ↓reduceIte, reduceCtorEq, eq_self]
      exact RET.mk' (SubN.refl _) (openS_nil hv)
    · intro b cap pad hb h1 h2 h3 h4
      simp -dsimp -implicitDefEqProofs only [EV1, EV2, EV3, EV4, EV5, Option.map_some, decide_true, decide_false, seval, ↓reduceIte, reduceCtorEq, eq_self]
      simp only [List.nil_append] at *
      exact RET.mk' (SubN.refl _) (OpenL.mk rfl h1 h2 h3 h4)

set_option maxHeartbeats 1000000 in
theorem f172 (rows : List (List AV)) (v : AV) (κ : Store) (ho : OpenL 27 8 rows v κ) (j : Nat) (hj : j < rows.length) (hl : rows.length < 1000000) :
    FnSpec G Tryz.prog 172 [v, .int .i64 j, .int .i64 ((j + 1 : Nat) : Int)] κ (fun r σ' => OpenL 27 8 (rows.take j ++ rows.drop (j + 1)) r σ') := by
  obtain ⟨base, cap, rfl, h⟩ := ho
  rcases h with ⟨rfl, rfl, rfl⟩ | ⟨b, pad, rfl, rfl, h1, h2, h3, h4⟩
  · simp at hj
  refine FnSpec.w c172 ?_
  unfold s172 r172
  have e0 : decide ((j : Int) = ((j + 1 : Nat) : Int)) = false := decide_eq_false (by omega)
  obtain ⟨o2, ho2⟩ : ∃ o2, (if cap = j + 1 then 0 else 0 + (j + 1) * 8) = o2 := ⟨_, rfl⟩
  have ho3 : o2 = (j + 1) * 8 ∨ j + 1 = rows.length ∧ o2 = 0 := by
    subst ho2
    split
    · exact .inr ⟨by omega, rfl⟩
    · exact .inl (by omega)
  have hfl := flat_len rows h3
  obtain ⟨D, hD⟩ : ∃ D, (rows.flatten ++ pad).drop (0 + j * 8 + (rows.drop (j + 1)).flatten.length) = D := ⟨_, rfl⟩
  have hdl : (rows.drop (j + 1)).flatten.length = (rows.length - (j + 1)) * 8 := by rw [flat_len _ (fun r hr => h3 r (List.mem_of_mem_drop hr)), List.length_drop]
  have htl : (rows.take j).flatten.length = j * 8 := by rw [flat_len _ (fun r hr => h3 r (List.mem_of_mem_take hr)), List.length_take, Nat.min_eq_left (by omega)]
  have hDl : D.length = cap * 8 - (rows.length - 1) * 8 := by rw [← hD, List.length_drop, h4, hdl]; omega
  have hsp : splice (rows.flatten ++ pad) (0 + j * 8) (rows.drop (j + 1)).flatten = (rows.take j ++ rows.drop (j + 1)).flatten ++ (D.take 8 ++ D.drop 8) := by
    rw [splice_eq _ _ _ (by rw [hdl, h4]; omega), hD, Nat.zero_add, take_flat h3 (by omega), List.flatten_append, List.take_append_drop]
  have hsp2 : splice ((rows.take j ++ rows.drop (j + 1)).flatten ++ (D.take 8 ++ D.drop 8)) ((rows.length - 1) * 8) [[AV.int .i64 0, .int .i64 0, .int .i64 0, .int .i64 0, .str [], .nil, .nil, .nil]].flatten = (rows.take j ++ rows.drop (j + 1)).flatten ++ (zU ++ D.drop 8) := by
    refine splice_mid ?_ ?_
    · rw [List.flatten_append, List.length_append, htl, hdl]; omega
    · rw [List.length_take, hDl]; simp [zU]; omega
  have hrl : ∀ r ∈ rows.take j ++ rows.drop (j + 1), r.length = 8 := fun r hr => by
    rcases List.mem_append.1 hr with hr | hr
    · exact h3 r (List.mem_of_mem_take hr)
    · exact h3 r (List.mem_of_mem_drop hr)
  have hrn : (rows.take j ++ rows.drop (j + 1)).length = rows.length - 1 := by rw [List.length_append, List.length_take, List.length_drop]; omega
  have hjn : j + (rows.drop (j + 1)).length = rows.length - 1 := by rw [List.length_drop]; omega
  generalize hrr : rows.take j ++ rows.drop (j + 1) = rows' at *
  (repeat' (first | simp -dsimp -implicitDefEqProofs only [EVz, seval, ↓reduceIte, reduceCtorEq, EV6, EV7, e0, hsp, hjn, hsp2] | (with_reducible refine both_case ?_ ?_) | (with_reducible refine same_case ?_) | (refine RAW_sliceH (e := 27) (sz := 8) (l := j) (h := j + 1) (m := rows.length) _ _ _ (by kernel_rfl) (by kernel_rfl) rfl ⟨_, rfl⟩ ⟨_, rfl⟩ ⟨_, rfl⟩ (fun _ => rfl) (by omega) (by omega) h1 rfl rfl rfl ?_) | (refine RAW_sliceH (e := 27) (sz := 8) (l := 0) (h := j) (m := cap) 0 j cap (by kernel_rfl) (by kernel_rfl) rfl rfl ⟨_, rfl⟩ rfl (fun h => by cases h) (by omega) (by omega) (Nat.le_refl _) (by split <;> rfl) rfl rfl ?_) | (refine RAW_sliceH (e := 27) (sz := 8) (l := j + 1) (h := rows.length) (m := cap) o2 (rows.length - (j + 1)) (cap - (j + 1)) (by kernel_rfl) (by kernel_rfl) rfl ⟨_, rfl⟩ rfl rfl (fun h => by cases h) (by omega) (by omega) (Nat.le_refl _) ho2 rfl rfl ?_) | (refine RAW_appendG (e := 27) (e' := 27) (sz := 8) (bytes := 120) (b := b) (o := 0) (n := j) (cap := cap) (rows := rows.take j) (ys := rows.drop (j + 1)) (cs := rows.flatten ++ pad) (z := zU) (by kernel_rfl) (by kernel_rfl) (by kernel_rfl) (by kernel_rfl) rfl (by decide) (by decide) rfl (if_pos rfl) (RowsAt.head h3 (by omega)) (by rw [h4]; omega) (.inr ⟨b, o2, _, _, 27, _, rfl, if_pos rfl, RowsAt.tail' h3 hj ho3⟩) (by rw [hjn]; omega) (fun _ => ?_) (fun hc => by omega)) | (refine RAW_sliceH (e := 27) (sz := 8) (l := rows.length - 1) (h := rows.length) (m := cap) ((rows.length - 1) * 8) 1 (cap - (rows.length - 1)) (by kernel_rfl) (by kernel_rfl) rfl ⟨_, rfl⟩ ⟨_, rfl⟩ rfl (fun h => by cases h) (by omega) (by omega) (Nat.le_refl _) (by rw [if_neg (by omega)]; omega) (by omega) rfl ?_) | (refine RAW_clearG (elem := 27) (sz := 8) (z := zU) (by kernel_rfl) (by kernel_rfl) rfl (by decide) rfl (if_pos rfl) (by rw [List.length_append, List.length_append, List.length_take, List.length_drop, hDl, flat_len _ hrl, hrn]; omega) (fun h => by cases h) (fun _ => ?_)) | fail))
  all_goals
    refine RET.mk' (SubN.refl _) (OpenL.mk hrn.symm (by omega) h2 hrl ?_)
    rw [List.length_append, flat_len _ hrl, hrn]
    simp only [List.length_cons, List.length_drop, hDl]
    omega

theorem x233 {σ : Store} {b1 b2 o2 n2 c2 k1 : Nat} {cs : List AV} {e2 : TypeId} {rows : List (List AV)} (hne : b1 ≠ b2) (h1 : σ.get b1 = some (.tok 27 k1)) (h2 : σ.get b2 = some (.cells e2 cs)) (hc : cs ≠ []) :
    XSpec G Tryz.prog (.func (.func 169) #[] #[]) [.own (some b1) 27 8 rows, .sc (.slice (some ⟨b2, o2, none⟩) n2 c2)] σ (fun r σ' => r = .bool false ∧ σ' = σ) :=
  XOVER (tS := 25) (tR := 4) (e := 27) (sz := 8) (fun w vs => run_callFunc_extern (e := Extern.SlicesOverlaps.overlaps #[25, 25] #[4]) Tryz.func169 (by kernel_rfl) (by kernel_rfl) (by kernel_rfl) (by kernel_rfl) vs w) (by kernel_rfl) (by kernel_rfl) hne h1 h2 hc

def putAt (rows : List (List AV)) (j : Nat) (x : List AV) : List (List AV) := rows.take j ++ x :: rows.drop j
theorem putAt_len (rows : List (List AV)) (j : Nat) (x : List AV) : (putAt rows j x).length = rows.length + 1 := by
  unfold putAt
  rw [List.length_append, List.length_cons, List.length_take, List.length_drop]; omega
theorem putAt_row {sz : Nat} {rows : List (List AV)} {j : Nat} {x : List AV} (h : ∀ r ∈ rows, r.length = sz) (hx : x.length = sz) : ∀ r ∈ putAt rows j x, r.length = sz := by
  intro r hr
  rcases List.mem_append.1 hr with hr | hr
  · exact h r (List.mem_of_mem_take hr)
  · rcases List.mem_cons.1 hr with rfl | hr
    · exact hx
    · exact h r (List.mem_of_mem_drop hr)
set_option maxHeartbeats 2000000 in
theorem f96 (rows : List (List AV)) (v : AV) (κ : Store) (ho : OpenL 27 8 rows v κ) (j : Nat) (hj : j ≤ rows.length) (hl : rows.length < 1000000) (bx : Nat) (x : List AV) (hx : x.length = 8) :
    FnSpec G Tryz.prog 96 [v, .int .i64 j, .own (some bx) 27 8 [x]] (κ ++ [(bx, .tok 27 8)]) (fun r σ' => ∃ κ', OpenL 27 8 (putAt rows j x) r κ' ∧ σ' = κ' ++ [(bx, .tok 27 8)]) := by
  by_cases hjn : j = rows.length
  · subst hjn
    have hp : putAt rows rows.length x = rows ++ [x] := by unfold putAt; rw [List.take_length, List.drop_length]
    rw [hp]
    refine FnSpec.wn c96 fun hnd => ?_
    unfold s96 r96
    obtain ⟨base, cap, rfl, h⟩ := ho
    rcases h with ⟨rfl, rfl, rfl⟩ | ⟨b, pad, rfl, rfl, h1, h2, h3, h4⟩
    · have hem : emptyS (.slice base 0 0) := by
        cases base with
        | none => exact .inl rfl
        | some a => exact .inr ⟨a, rfl⟩
      (repeat' (first | simp -dsimp -implicitDefEqProofs only [EVz, seval, ↓reduceIte, reduceCtorEq, EV6, EV7] | (refine RAW_sliceE (e := 27) (sz := 8) (by kernel_rfl) (by kernel_rfl) rfl ⟨_, rfl⟩ rfl rfl (fun h => by cases h) ?_) | (refine RAW_appendZ (e := 27) (e' := 27) (sz := 8) (bytes := 120) (rows := []) (ys := [x]) (g := none) (xv := .sc (.slice base 0 0)) (by kernel_rfl) (by kernel_rfl) (by kernel_rfl) (by kernel_rfl) (by decide) (by decide) rfl (.inl ⟨rfl, rfl, .inr ⟨_, rfl, hem⟩⟩) ⟨rfl, rfl⟩ (by simp) (fun _ h => by cases h) (fun b' cap' pad hb g1 g2 g3 g4 => ?_)) | fail))
      exact RET.mk' (SubN.refl _) ⟨_, OpenL.mk rfl g1 g2 g3 g4, rfl⟩
    · have hbx : ¬ bx = b := by
        simp [Store.keys] at hnd
        exact fun e => hnd e.symm
      have her : Store.erase [(b, AObj.cells 27 (rows.flatten ++ pad)), (bx, .tok 27 8)] (some b) = [(bx, .tok 27 8)] := by simp [Store.erase, hbx]
      (repeat' (first | simp -dsimp -implicitDefEqProofs only [EVz, seval, ↓reduceIte, reduceCtorEq, EV6, EV7, her] | (refine RAW_sliceH (e := 27) (sz := 8) (l := rows.length) (h := rows.length) (m := cap) _ _ _ (by kernel_rfl) (by kernel_rfl) rfl ⟨_, rfl⟩ rfl rfl (fun h => by cases h) (by omega) h1 (Nat.le_refl _) rfl rfl rfl ?_) | (refine RAW_appendZ (e := 27) (e' := 27) (sz := 8) (bytes := 120) (rows := rows) (ys := [x]) (g := some b) (xv := .sc (.slice (some ⟨b, 0, none⟩) rows.length cap)) (by kernel_rfl) (by kernel_rfl) (by kernel_rfl) (by kernel_rfl) (by decide) (by decide) rfl (.inr ⟨b, cap, pad, rfl, rfl, if_pos rfl, h3, h4, h1, h2⟩) ⟨rfl, rfl⟩ (by simp; omega) (fun _ h => by cases h) (fun b' cap' pad' hb g1 g2 g3 g4 => ?_)) | fail))
      exact RET.mk' (SubN.refl _) ⟨_, OpenL.mk (by simp) g1 g2 g3 g4, rfl⟩
  · obtain ⟨base, cap, rfl, h⟩ := ho
    rcases h with ⟨rfl, rfl, rfl⟩ | ⟨b, pad, rfl, rfl, h1, h2, h3, h4⟩
    · simp at hj
      exact absurd hj hjn
    refine FnSpec.wn c96 fun hnd => ?_
    unfold s96 r96
    have hbx : ¬ bx = b := by
      simp [Store.keys] at hnd
      exact fun e => hnd e.symm
    have hbx2 : ¬ b = bx := fun e => hbx e.symm
    have e0 : decide ((j : Int) = (rows.length : Int)) = false := decide_eq_false (by omega)
    have w1 : IntKind.i64.wrap ((rows.length : Int) + 1) = ((rows.length + 1 : Nat) : Int) := by rw [wrap_i64 (by omega) (by omega)]; omega
    have w2 : IntKind.i64.wrap (((rows.length + 1 : Nat) : Int) - (j : Int)) = ((rows.length + 1 - j : Nat) : Int) := by rw [wrap_i64 (by omega) (by omega)]; omega
    have w3 : IntKind.i64.wrap ((j : Int) + 1) = ((j + 1 : Nat) : Int) := by rw [wrap_i64 (by omega) (by omega)]; omega
    have hlt : j < rows.length := by omega
    have htl : (rows.take j).flatten.length = j * 8 := by rw [flat_len _ (fun r hr => h3 r (List.mem_of_mem_take hr)), List.length_take, Nat.min_eq_left (by omega)]
    have hdl : (rows.drop j).flatten.length = (rows.length - j) * 8 := by rw [flat_len _ (fun r hr => h3 r (List.mem_of_mem_drop hr)), List.length_drop]
    have hpl := putAt_len rows j x
    have hpr := putAt_row (j := j) h3 hx
    have hpf : ∀ D, (putAt rows j x).flatten ++ D = (rows.take j).flatten ++ (x ++ ((rows.drop j).flatten ++ D)) := fun D => by unfold putAt; simp [List.append_assoc]
    by_cases hc : rows.length + 1 ≤ cap
    · have e1 : decide ((cap : Int) < ((rows.length + 1 : Nat) : Int)) = false := decide_eq_false (by omega)
      have hpad : 8 ≤ pad.length := by
        have := flat_len rows h3
        rw [List.length_append] at h4
        omega
      have hrj : rows[j].length = 8 := h3 _ (List.getElem_mem hlt)
      have hcs : rows.flatten ++ pad = (rows.take j).flatten ++ ((rows.drop j ++ [pad.take 8]).flatten ++ pad.drop 8) := by
        have h5 : rows.flatten = (rows.take j).flatten ++ (rows.drop j).flatten := by rw [← List.flatten_append, List.take_append_drop]
        rw [h5]
        simp [List.append_assoc]
      have hRA : RowsAt 8 (rows.flatten ++ pad) (j * 8) (rows.length + 1 - j) (rows.drop j ++ [pad.take 8]) := by
        rw [hcs]
        refine RowsAt.mid htl.symm (by simp; omega) (fun r hr => ?_)
        rcases List.mem_append.1 hr with hr | hr
        · exact h3 r (List.mem_of_mem_drop hr)
        · simp only [List.mem_singleton] at hr; subst hr; rw [List.length_take]; omega
      have htk : (rows.drop j ++ [pad.take 8]).take (rows.length - j) = rows.drop j := by
        rw [List.take_append_of_le_length (by rw [List.length_drop]; omega), List.take_of_length_le (by rw [List.length_drop]; omega)]
      have hsp1 : splice (rows.flatten ++ pad) ((j + 1) * 8) ((rows.drop j ++ [pad.take 8]).take (rows.length - j)).flatten = (rows.take j).flatten ++ (rows[j] ++ ((rows.drop j).flatten ++ pad.drop 8)) := by
        have hfl := flat_len rows h3
        have hdd : rows.flatten.drop ((j + 1) * 8 + (rows.drop j).flatten.length) = [] := List.drop_eq_nil_of_le (by rw [hdl, hfl]; omega)
        rw [htk, splice_eq _ _ _ (by rw [hdl, h4]; omega), take_flat h3 (by omega), List.drop_append, hdd, List.nil_append, hdl, hfl, show (j + 1) * 8 + (rows.length - j) * 8 - rows.length * 8 = 8 by omega, List.take_succ_eq_append_getElem hlt, List.flatten_append]
        simp [List.append_assoc]
      have hsp2 : splice ((rows.take j).flatten ++ (rows[j] ++ ((rows.drop j).flatten ++ pad.drop 8))) (j * 8) ([x].take 1).flatten = (putAt rows j x).flatten ++ pad.drop 8 := by
        rw [hpf]
        simpa using splice_mid (A := (rows.take j).flatten) (B := rows[j]) (B' := x) (C := (rows.drop j).flatten ++ pad.drop 8) htl.symm (by rw [hx, hrj])
      have hcne : rows.flatten ++ pad ≠ [] := fun h => by
        have := congrArg List.length h
        rw [h4] at this
        simp at this
        omega
      have hm1 : min (rows.drop j ++ [pad.take 8]).length (rows.length - j) = rows.length - j := by rw [List.length_append, List.length_drop]; exact Nat.min_eq_right (Nat.le_add_right _ _)
      have hm2 : min [x].length (rows.length + 1 - j) = 1 := Nat.min_eq_left (by simp; omega)
      have hm3 : j * 8 + 1 * 8 ≤ ((rows.take j).flatten ++ (rows[j] ++ ((rows.drop j).flatten ++ pad.drop 8))).length := by rw [List.length_append, List.length_append, htl, hrj]; omega
      have hg1 : Store.get [(b, AObj.cells 27 (rows.flatten ++ pad)), (bx, .tok 27 8)] bx = some (.tok 27 8) := by simp [Store.get, hbx2]
      have hg2 : Store.get [(b, AObj.cells 27 (rows.flatten ++ pad)), (bx, .tok 27 8)] b = some (.cells 27 (rows.flatten ++ pad)) := by simp [Store.get]
      generalize hrr : rows[j] = rj at *
      (repeat' (first | simp -dsimp -implicitDefEqProofs only [EVz, seval, ↓reduceIte, reduceCtorEq, EV6, EV7, e0, w1, e1, w3] | (with_reducible refine both_case ?_ ?_) | (with_reducible refine same_case ?_) | (refine RAW_sliceH (e := 27) (sz := 8) (l := j) (h := rows.length) (m := cap) _ _ _ (by kernel_rfl) (by kernel_rfl) rfl ⟨_, rfl⟩ rfl rfl (fun h => by cases h) (by omega) h1 (Nat.le_refl _) rfl rfl rfl ?_) | (refine RAW_capG (e := 27) rfl (by kernel_rfl) ?_) | (refine RAW_sliceH (e := 27) (sz := 8) (l := 0) (h := rows.length + 1) (m := cap) 0 (rows.length + 1) cap (by kernel_rfl) (by kernel_rfl) rfl rfl ⟨_, rfl⟩ rfl (fun h => by cases h) (by omega) hc (Nat.le_refl _) (by split <;> rfl) rfl rfl ?_) | (refine RAW_sliceH (e := 27) (sz := 8) (l := j + 1) (h := rows.length + 1) (m := cap) ((j + 1) * 8) (rows.length - j) (cap - (j + 1)) (by kernel_rfl) (by kernel_rfl) rfl ⟨_, rfl⟩ rfl rfl (fun h => by cases h) (by omega) hc (Nat.le_refl _) (by rw [if_neg (by omega)]; omega) (by omega) rfl ?_) | (refine CALL_x _ [] (x233 G hbx hg1 hg2 hcne) (AVleA.rfl' _) (by rw [List.append_nil]; exact SubN.refl _) (fun r' σ'' h' => ?_)) | (obtain ⟨rfl, rfl⟩ := h') | (refine RAW_sliceH (e := 27) (sz := 8) (l := j) (h := rows.length + 1) (m := cap) (j * 8) (rows.length + 1 - j) (cap - j) (by kernel_rfl) (by kernel_rfl) rfl ⟨_, rfl⟩ rfl rfl (fun h => by cases h) (by omega) hc (Nat.le_refl _) (by rw [if_neg (by omega)]; omega) (by omega) rfl ?_) | (refine RAW_copyH (elem := 27) (sz := 8) (b := b) (ys := rows.drop j ++ [pad.take 8]) (rows.length - j) _ (by kernel_rfl) (by kernel_rfl) rfl (if_pos rfl) (.inr ⟨b, j * 8, _, _, 27, _, rfl, if_pos rfl, hRA⟩) hm1 (by omega) (by rw [h4]; omega) hsp1 ?_) | (refine RAW_copyH (elem := 27) (sz := 8) (b := b) (ys := [x]) 1 _ (by kernel_rfl) (by kernel_rfl) rfl (if_pos rfl) (.inl ⟨rfl, rfl⟩) hm2 (by omega) hm3 hsp2 ?_) | fail))
      all_goals
        refine RET.mk' (SubN.refl _) ⟨_, OpenL.mk hpl.symm (by omega) h2 hpr ?_, rfl⟩
        rw [hpf, List.length_append, List.length_append, List.length_append, htl, hdl, hx, List.length_drop]
        rw [List.length_append, flat_len rows h3] at h4
        omega
    · have e1 : decide ((cap : Int) < ((rows.length + 1 : Nat) : Int)) = true := decide_eq_true (by omega)
      have hjk : j + (rows.length + 1 - j) = rows.length + 1 := by omega
      have hnk : rows.length + 1 - j = (rows.length - j) + 1 := by omega
      have hm1 : min [x].length (rows.length + 1 - j) = 1 := Nat.min_eq_left (by simp; omega)
      have hm2 : min (rows.drop j).length (rows.length - j) = rows.length - j := by rw [List.length_drop]; exact Nat.min_self _
      obtain ⟨z0, hz0, hz1⟩ : ∃ z0, zeroT Tryz.prog 27 = some z0 ∧ z0.length = 8 := ⟨zU, by kernel_rfl, rfl⟩
      have hzl : ∀ k, (List.replicate k z0).flatten.length = k * 8 := fun k => by rw [flatRepLen, hz1]
      have hsp1 : ∀ pad' : List AV, splice ((rows.take j).flatten ++ ((List.replicate (rows.length + 1 - j) z0).flatten ++ pad')) (j * 8) ([x].take 1).flatten = (rows.take j).flatten ++ (x ++ ((List.replicate (rows.length - j) z0).flatten ++ pad')) := fun pad' => by
        rw [hnk, List.replicate_succ, List.flatten_cons, List.append_assoc]
        simpa using splice_mid (A := (rows.take j).flatten) (B := z0) (B' := x) (C := (List.replicate (rows.length - j) z0).flatten ++ pad') htl.symm (by rw [hx, hz1])
      have htd : (rows.drop j).take (rows.length - j) = rows.drop j := List.take_of_length_le (by rw [List.length_drop]; omega)
      have hsp2 : ∀ pad' : List AV, splice ((rows.take j).flatten ++ (x ++ ((List.replicate (rows.length - j) z0).flatten ++ pad'))) ((j + 1) * 8) ((rows.drop j).take (rows.length - j)).flatten = (putAt rows j x).flatten ++ pad' := fun pad' => by
        rw [htd, hpf]
        simpa [List.append_assoc] using splice_mid (o := (j + 1) * 8) (A := (rows.take j).flatten ++ x) (B := (List.replicate (rows.length - j) z0).flatten) (B' := (rows.drop j).flatten) (C := pad') (by rw [List.length_append, htl, hx]; omega) (by rw [hdl, hzl])
      (repeat' (first | simp -dsimp -implicitDefEqProofs only [EVz, seval, ↓reduceIte, reduceCtorEq, EV6, EV7, e0, w1, e1, w2, w3, hjk] | (with_reducible refine both_case ?_ ?_) | (with_reducible refine same_case ?_) | (refine RAW_sliceH (e := 27) (sz := 8) (l := j) (h := rows.length) (m := cap) (j * 8) (rows.length - j) (cap - j) (by kernel_rfl) (by kernel_rfl) rfl ⟨_, rfl⟩ rfl rfl (fun h => by cases h) (by omega) (by omega) (Nat.le_refl _) (by rw [if_neg (by omega)]; omega) rfl rfl ?_) | (refine RAW_capG (e := 27) rfl (by kernel_rfl) ?_) | (refine RAW_sliceH (e := 27) (sz := 8) (l := 0) (h := j) (m := cap) 0 j cap (by kernel_rfl) (by kernel_rfl) rfl rfl ⟨_, rfl⟩ rfl (fun h => by cases h) (by omega) (by omega) (Nat.le_refl _) (by split <;> rfl) rfl rfl ?_) | (refine RAW_appendZeros (e := 27) (sz := 8) (bytes := 120) (rows := rows.take j) (k := rows.length + 1 - j) (z := z0) (kn := .i64) (by kernel_rfl) (by kernel_rfl) (by kernel_rfl) hz0 hz1 (by decide) (by decide) rfl (if_pos rfl) (RowsAt.head h3 (by omega)) rfl (by omega) (by omega) (by rw [hjk]; omega) (fun b' cap' pad' hb' g1 g2 g3 => ?_)) | (simp only [Store.keys, List.map_cons, List.map_nil, List.mem_cons, List.not_mem_nil, or_false, not_or] at hb') | (refine RAW_sliceH (e := 27) (sz := 8) (l := j) (h := rows.length + 1) (m := cap') (j * 8) (rows.length + 1 - j) (cap' - j) (by kernel_rfl) (by kernel_rfl) rfl ⟨_, rfl⟩ rfl rfl (fun h => by cases h) (by omega) (by omega) (Nat.le_refl _) (by rw [if_neg (by omega)]; omega) rfl rfl ?_) | (refine RAW_copyH (elem := 27) (sz := 8) (b := b') (ys := [x]) 1 _ (by kernel_rfl) (by kernel_rfl) rfl (if_pos rfl) (.inl ⟨rfl, rfl⟩) hm1 (by omega) (by rw [List.length_append, List.length_append, htl, hzl]; omega) (hsp1 pad') ?_) | (refine RAW_sliceH (e := 27) (sz := 8) (l := j + 1) (h := rows.length + 1) (m := cap') ((j + 1) * 8) (rows.length - j) (cap' - (j + 1)) (by kernel_rfl) (by kernel_rfl) rfl ⟨_, rfl⟩ rfl rfl (fun h => by cases h) (by omega) (by omega) (Nat.le_refl _) (by rw [if_neg (by omega)]; omega) (by omega) rfl ?_) | (refine RAW_copyH (elem := 27) (sz := 8) (b := b') (ys := rows.drop j) (rows.length - j) _ (by kernel_rfl) (by kernel_rfl) rfl (if_pos rfl) (.inr ⟨b, j * 8, _, _, 27, _, rfl, (if_neg hb'.1).trans (if_pos rfl), RowsAt.tail h3 (by omega)⟩) hm2 (by omega) (by rw [List.length_append, List.length_append, List.length_append, htl, hx, hzl]; omega) (hsp2 pad') ?_) | fail))
      all_goals
        refine RET.mk' (σ' := [(b', AObj.cells 27 ((putAt rows j x).flatten ++ pad'))] ++ [(bx, .tok 27 8)]) ⟨fun q hq => ?_, fun hn => ?_⟩ ⟨_, OpenL.mk hpl.symm (by omega) g2 hpr ?_, rfl⟩
        · simp only [List.cons_append, List.nil_append, List.mem_cons, List.not_mem_nil, or_false] at hq ⊢
          rcases hq with hq | hq
          · exact .inl hq
          · exact .inr (.inr hq)
        · simp [Store.keys]
          exact hb'.2
        · rw [hpf, List.length_append, List.length_append, List.length_append, htl, hdl, hx]
          rw [List.length_append, List.length_append, htl, hzl] at g3
          omega
end
end Go.Av
