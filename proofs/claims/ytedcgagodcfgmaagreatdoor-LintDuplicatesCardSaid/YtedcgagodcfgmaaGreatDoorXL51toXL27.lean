/-
  LINT, 51: items searched by a function that may read cells.
-/
import Derived.Test.YtedcgagodcfgmaaGreatDoorXL25toXL50
import Derived.Test.YtedcgagodcfgmaaGreatDoorXC1
import Derived.Test.YtedcgagodcfgmaaGreatDoorXC2
import Derived.Test.YtedcgagodcfgmaaGreatDoorXC3
import Derived.Test.YtedcgagodcfgmaaGreatDoorXL14toXL15
section
namespace Go.Av
open Go Go.RowKit Go.Proofs
set_option linter.unusedSimpArgs false
set_option linter.unusedVariables false

theorem CALL_keep {G : Glob} {P : Program} {f : Value} {args : List AV} {σ : Store} {K : AV → Store → Prop} {t : Tag K} {v : AV}
    (h : VSpec G P f args σ fun r σ' => r = v ∧ σ' = σ) (hk : K v σ) : CALL G P f args σ K t :=
  CALL_spec σ [] h (AVleA.rfl' _) (by rw [List.append_nil]; exact SubN.refl _) (by rintro _ _ ⟨rfl, rfl⟩; rw [List.append_nil]; exact hk)
theorem FnSpec.wk {G : Glob} {P : Program} {k : FuncId} {args : List AV} {σ : Store} {r : AV} {g : List Nat} {ts : List (Nat × Option (Bool × Nat))} {s : SCode} (hk : fnAt P k g = some (ts, s))
    (h : ∀ R, (∀ x σ', AVle x r → SubN σ σ' → RET x σ' R) → W G P s (retQ ts R) (argEnv 0 args) σ ⟨⟩) : FnSpec G P k args σ fun x σ' => x = r ∧ σ' = σ :=
  FnSpec.at hk (h _ fun x σ' hx hs => ⟨r, σ, hx, hs, rfl, rfl⟩)

section
variable (G : Glob)
theorem f90k (σ : Store) (f : Value) (p : Itm → Bool) (l : List Itm) (hl : l.length < 9000000000000000000) (hf : ∀ x ∈ l, VSpec G Tryz.prog f [.agg x.cs] σ fun r σ' => r = .bool (p x) ∧ σ' = σ) :
    FnSpec G Tryz.prog 90 [.lst 25 (l.map Itm.cs), .sc f] σ fun r σ' => r = .int .i64 (idxF p 0 l) ∧ σ' = σ := by
  refine FnSpec.wk c90 fun R hR => ?_
  unfold s90 r90
  (repeat' (first | (with_reducible (refine split_case (fun h => ?_) (fun h => ?_)) <;> (try simp only [Da, Db, Dc, Dd, De, Df, Dg, Dh] at h)) | simp -dsimp -implicitDefEqProofs only [EV1, EV2, EV3, EV4, EV5, seval, ↓reduceIte, reduceCtorEq, eq_self, Option.map_some, decide_true, decide_false, EV6, EV7, hx.yes, hx.le0, hx.lt', hx.get, hx.row, hw] | simp -dsimp -implicitDefEqProofs only [EV1, EV2, EV3, EV4, EV5, seval, ↓reduceIte, reduceCtorEq, eq_self, Option.map_some, decide_true, decide_false, EV6, EV7, hn] | simp -dsimp -implicitDefEqProofs only [EV1, EV2, EV3, EV4, EV5, seval, ↓reduceIte, reduceCtorEq, eq_self, Option.map_some, decide_true, decide_false, EV6, EV7] | (refine LK_next hx () ?_ (Weak.rfl' _ _)) | (refine W_list l (fun i r (c : Unit) => idxF p 0 l = idxF p i r) (fun i c => [(0, .lst 25 (l.map Itm.cs)), (1, .sc f), (7, .int .i64 l.length), (8, .int .i64 i)]) (fun _ _ => σ) () rfl (Weak.rfl' _ _) (by omega) (fun i x r c hok hx hw => ?_) (fun c hok hn => ?_)) | (refine CALL_keep (hf _ hx.mem) ?_)))
  · refine hR _ _ (.inl (.inl ?_)) (SubN.refl _)
    rw [hok, idxF, if_pos h]
  · rw [hok, idxF, h]; rfl
  · refine hR _ _ (.inl (.inl ?_)) (SubN.refl _)
    rw [hok]; rfl
theorem f40k (σ : Store) (f : Value) (p : Itm → Bool) (l : List Itm) (hl : l.length < 9000000000000000000) (hf : ∀ x ∈ l, VSpec G Tryz.prog f [.agg x.cs] σ fun r σ' => r = .bool (p x) ∧ σ' = σ) :
    FnSpec G Tryz.prog 40 [.lst 25 (l.map Itm.cs), .sc f] σ fun r σ' => r = .bool (l.any p) ∧ σ' = σ := by
  refine FnSpec.wk c40 fun R hR => ?_
  unfold s40 r40
  have hI := f90k G σ f p l hl hf
  (repeat' (first | simp -dsimp -implicitDefEqProofs only [EV1, EV2, EV3, EV4, EV5, seval, ↓reduceIte, reduceCtorEq, eq_self, Option.map_some, decide_true, decide_false, EV6, EV7] | (refine CALL_keep hI.v ?_)))
  exact hR _ _ (.inl (.inl (by rw [idxF_ge]))) (SubN.refl _)
end
end Go.Av
end

section
namespace Go.Av
open Go Go.RowKit Go.Proofs
set_option linter.unusedSimpArgs false
set_option linter.unusedVariables false

theorem rows4 (l : List Wd) : ∀ r ∈ l.map Wd.cs, r.length = 4 := by
  intro r hr
  obtain ⟨w, _, rfl⟩ := List.mem_map.1 hr
  rfl
theorem rows8 (l : List U) : ∀ r ∈ l.map U.cs, r.length = 8 := by
  intro r hr
  obtain ⟨w, _, rfl⟩ := List.mem_map.1 hr
  exact U.cs_len w
theorem openS_nil {e : TypeId} {sz : Nat} {v : Value} (h : emptyS v) : OpenL e sz [] (.sc v) [] := by
  rcases h with rfl | ⟨a, rfl⟩
  · exact ⟨none, 0, rfl, .inl ⟨rfl, rfl, rfl⟩⟩
  · exact ⟨some a, 0, rfl, .inl ⟨rfl, rfl, rfl⟩⟩
theorem RET.le {x y : AV} {R : AV → Store → Prop} {σ σ' : Store} (hl : AVle x y) (hs : SubN σ' σ) (h : R y σ') : RET x σ R := ⟨y, σ', hl, hs, h⟩
theorem RET.mk' {x : AV} {R : AV → Store → Prop} {σ σ' : Store} (hs : SubN σ' σ) (h : R x σ') : RET x σ R := ⟨x, σ', AVle.rfl' _, hs, h⟩

section
variable (G : Glob)

theorem f182 (l : List Wd) (hl : l.length < 1000000) : FnSpec G Tryz.prog 182 [.lst 4 (l.map Wd.cs)] [] (fun r σ => OpenL 130 4 (l.map Wd.cs) r σ) := by
  obtain ⟨rows, hrows⟩ : ∃ rows, l.map Wd.cs = rows := ⟨_, rfl⟩
  have hlen : rows.length = l.length := by rw [← hrows, List.length_map]
  have hsz : ∀ r ∈ rows, r.length = 4 := by rw [← hrows]; exact rows4 l
  rw [hrows]
  refine FnSpec.w c182 ?_
  unfold s182 r182
  simp -dsimp -implicitDefEqProofs only [EV1, EV2, EV3, EV4, EV5, Option.map_some, decide_true, decide_false, seval, ↓reduceIte, reduceCtorEq, eq_self]
  intro bb hbb
  refine split_case (fun h => ?_) (fun h => ?_)
  · simp -dsimp -implicitDefEqProofs only [EV1, EV2, EV3, EV4, EV5, Option.map_some, decide_true, decide_false, seval, ↓reduceIte, reduceCtorEq, eq_self]
    have h0 : rows = [] := by
      rcases Classical.em (rows = []) with h1 | h1
      · exact h1
      · rw [hbb h1] at h; cases h
    subst h0
    exact RET.le (y := .sc (.slice none 0 0)) (Or.inl (Or.inr rfl)) (SubN.refl _) (openS_nil (.inl rfl))
  · simp -dsimp -implicitDefEqProofs only [EV1, EV2, EV3, EV4, EV5, Option.map_some, decide_true, decide_false, seval, ↓reduceIte, reduceCtorEq, eq_self]
    refine RAW_buildS0 (e := 130) (n := 4) (by kernel_rfl) (by kernel_rfl) (fun v hv => ?_)
    simp -dsimp -implicitDefEqProofs only [EV1, EV2, EV3, EV4, EV5, Option.map_some, decide_true, decide_false, seval, ↓reduceIte, reduceCtorEq, eq_self]
    refine RAW_appendZ (e := 130) (e' := 130) (sz := 4) (bytes := 40) (rows := []) (ys := rows) (g := none) (xv := .sc v) (by kernel_rfl) (by kernel_rfl) (by kernel_rfl) (by kernel_rfl) (by decide) (by decide) rfl (.inl ⟨rfl, rfl, .inr ⟨v, rfl, hv⟩⟩) ?_ ?_ ?_ ?_
    · exact ⟨rfl, rfl⟩
    · simp; omega
    · intro _ h0
      simp -dsimp -implicitDefEqProofs only [EV1, EV2, EV3, EV4, EV5, Option.map_some, decide_true, decide_false, seval, ↓reduceIte, reduceCtorEq, eq_self]
      subst h0
      exact RET.mk' (SubN.refl _) (openS_nil hv)
    · intro b cap pad hb hle hcm hr2 hln
      simp -dsimp -implicitDefEqProofs only [EV1, EV2, EV3, EV4, EV5, Option.map_some, decide_true, decide_false, seval, ↓reduceIte, reduceCtorEq, eq_self]
      simp only [List.nil_append] at *
      exact RET.mk' (SubN.refl _) ⟨_, _, rfl, .inr ⟨b, pad, rfl, rfl, hle, hcm, hr2, hln⟩⟩
end
end Go.Av
end

section
namespace Go.Av
open Go Go.RowKit Go.Proofs
set_option linter.unusedSimpArgs false
set_option linter.unusedVariables false

theorem nd_app {σ τ : Store} (h : (σ ++ τ : Store).keys.Nodup) {b : Nat} (hb : b ∈ τ.keys) : b ∉ σ.keys := by
  rw [keys_append] at h
  exact fun hm => (List.nodup_append.1 h).2.2 b hm b hb rfl
theorem nd_appR {σ τ : Store} (h : (σ ++ τ : Store).keys.Nodup) : τ.keys.Nodup := by
  rw [keys_append] at h
  exact (List.nodup_append.1 h).2.1

/-- A copy whose lists lie in cells of their own. -/
def CopyR (u : U) (r : AV) (σ : Store) : Prop :=
  ∃ bh ch σh bw cw σw bk ck σk, r = .agg [.int .i64 u.id.act, .int .i64 u.id.item, .int .i64 u.id.n, .int .i64 u.kind, .str u.label, .sc (.slice bh u.head.length ch), .sc (.slice bw u.words.length cw), .sc (.slice bk u.kids.length ck)] ∧
    σ = σk ++ (σw ++ σh) ∧ OpenS 130 4 (u.head.map Wd.cs) bh ch σh ∧ OpenS 130 4 (u.words.map Wd.cs) bw cw σw ∧ OpenS 28 8 (u.kids.map U.cs) bk ck σk

theorem CopyR.freeze {G : Glob} {P : Program} {k : FuncId} {args : List AV} {u : U} (h : FnSpec G P k args [] (CopyR u)) : Pure G P k args (.agg u.cs) := by
  refine FnSpec.freeze (FnSpec.mono h ?_)
  rintro r σ' ⟨bh, ch, σh, bw, cw, σw, bk, ck, σk, rfl, rfl, h1, h2, h3⟩
  refine ⟨_, rfl, ?_⟩
  rw [U.cs_eq]
  refine ⟨.inl rfl, .inl rfl, .inl rfl, .inl rfl, .inl rfl, .inr ⟨_, _, _, σh, ⟨bh, ch, by simp, h1⟩, ?_, rfl⟩, .inr ⟨_, _, _, σw, ⟨bw, cw, by simp, h2⟩, ?_, rfl⟩, .inr ⟨_, _, _, σk, ⟨bk, ck, by simp, h3⟩, ?_, rfl⟩, trivial⟩ <;>
  · intro p hp
    simp only [List.mem_append]
    simp [hp]

/-- The children copied so far: the slice and its block. -/
abbrev KS := Option (Nat × Nat × List AV)
def kAV (c : KS) (n : Nat) : AV := match c with
  | none => .nil
  | some (b, cap, _) => .sc (.slice (some ⟨b, 0, none⟩) n cap)
def kSt (c : KS) (rows : List (List AV)) : Store := match c with
  | none => []
  | some (b, _, pad) => [(b, .cells 28 (rows.flatten ++ pad))]
def kOk (c : KS) (rows : List (List AV)) : Prop := match c with
  | none => rows = []
  | some (b, cap, pad) => rows.length ≤ cap ∧ cap ≤ maxLen ∧ (∀ r ∈ rows, r.length = 8) ∧ (rows.flatten ++ pad).length = cap * 8
theorem kWS {c : KS} {rows : List (List AV)} (h : kOk c rows) : WS (kSt c rows) 28 8 (kAV c rows.length) rows (c.map (·.1)) := by
  cases c with
  | none => exact .inl ⟨h, rfl, .inl rfl⟩
  | some p =>
    obtain ⟨b, cap, pad⟩ := p
    obtain ⟨h1, h2, h3, h4⟩ := h
    exact .inr ⟨b, cap, pad, rfl, rfl, by simp [kSt, Store.get], h3, h4, h1, h2⟩
theorem kErase (c : KS) (rows : List (List AV)) : (kSt c rows).erase (c.map (·.1)) = [] := by
  cases c with
  | none => rfl
  | some p => obtain ⟨b, cap, pad⟩ := p; simp [kSt, Store.erase]
theorem kS {c : KS} {rows : List (List AV)} (h : kOk c rows) : ∃ base cap, AVle1 (kAV c rows.length) (.sc (.slice base rows.length cap)) ∧ OpenS 28 8 rows base cap (kSt c rows) := by
  cases c with
  | none =>
    have h : rows = [] := h
    subst h
    exact ⟨none, 0, .inr rfl, .inl ⟨rfl, rfl, rfl⟩⟩
  | some p =>
    obtain ⟨b, cap, pad⟩ := p
    obtain ⟨h1, h2, h3, h4⟩ := h
    exact ⟨some ⟨b, 0, none⟩, cap, .inl rfl, .inr ⟨b, pad, rfl, rfl, h1, h2, h3, h4⟩⟩

section
variable (G : Glob)
set_option maxHeartbeats 2000000 in
theorem f114 : ∀ (u : U), u.Short → FnSpec G Tryz.prog 114 [.agg u.cs] [] (CopyR u) := by
  refine U.ind fun u ih hs => ?_
  have h0 := hs.2 u u.flat_self
  have hkl := hs.1.kids
  have hCh := f182 G u.head h0.2.1
  have hCw := f182 G u.words h0.2.2.1
  rw [U.cs_eq u]
  refine FnSpec.w c114 ?_
  unfold s114 r114
  (try simp -dsimp -implicitDefEqProofs only [EV1, EV2, EV3, EV4, EV5, seval, ↓reduceIte, reduceCtorEq, eq_self, Option.map_some, decide_true, decide_false, EV6, EV7])
  intro b1 hb1 b2 hb2
  have hb12 : ¬ b1 = b2 := by simp only [EVK] at hb2; exact fun e => hb2 e.symm
  have hb21 : ¬ b2 = b1 := fun e => hb12 e.symm
  (repeat' (first | simp -dsimp -implicitDefEqProofs only [EV1, EV2, EV3, EV4, EV5, seval, ↓reduceIte, reduceCtorEq, eq_self, Option.map_some, decide_true, decide_false, EV6, EV7, hb12, hb21] | (with_reducible refine both_case ?_ ?_)))
  all_goals (
    refine CALL_specN [] _ hCh.v (AVleA.rfl' _) (SubN.refl _) ?_
    rintro _ σh ⟨bh, ch, rfl, hOh⟩ hnd1
    have h11 : b1 ∉ σh.keys := nd_app hnd1 (by simp [Store.keys])
    have h12 : b2 ∉ σh.keys := nd_app hnd1 (by simp [Store.keys])
    (try simp -dsimp -implicitDefEqProofs only [EV1, EV2, EV3, EV4, EV5, seval, ↓reduceIte, reduceCtorEq, eq_self, Option.map_some, decide_true, decide_false, EV6, EV7, sget_app h11, sget_app h12, sset_app h11, sset_app h12, hb12, hb21])
    refine CALL_specN [] _ hCw.v (AVleA.rfl' _) (SubN.refl _) ?_
    rintro _ σw ⟨bw, cw, rfl, hOw⟩ hnd2
    have h21 : b1 ∉ σw.keys := nd_app hnd2 (by simp [Store.keys])
    have h22 : b2 ∉ σw.keys := nd_app hnd2 (by simp [Store.keys])
    (try simp -dsimp -implicitDefEqProofs only [EV1, EV2, EV3, EV4, EV5, seval, ↓reduceIte, reduceCtorEq, eq_self, Option.map_some, decide_true, decide_false, EV6, EV7, sget_app h11, sget_app h12, sset_app h11, sset_app h12, sget_app h21, sget_app h22, sset_app h21, sset_app h22, hb12, hb21, List.append_eq]))
  all_goals (
    refine same_case ?_
    (try simp -dsimp -implicitDefEqProofs only [EV1, EV2, EV3, EV4, EV5, seval, ↓reduceIte, reduceCtorEq, eq_self, Option.map_some, decide_true, decide_false, EV6, EV7, sget_app h11, sget_app h12, sset_app h11, sset_app h12, sget_app h21, sget_app h22, sset_app h21, sset_app h22, hb12, hb21, List.append_eq])
    have hnd3 : Store.keys (σw ++ (σh ++ [(b2, AObj.cells 28 [.int .i64 0, .int .i64 0, .int .i64 0, .int .i64 0, .str [], .nil, .nil, .nil]), (b1, AObj.cells 28 [.int .i64 u.id.act, .int .i64 u.id.item, .int .i64 u.id.n, .int .i64 u.kind, .str u.label, .sc (.slice bh u.head.length ch), .sc (.slice bw u.words.length cw), .lst 8 (u.kids.map U.cs)])])) |>.Nodup := by
      simp only [List.append_eq] at hnd2
      simpa [Store.keys] using hnd2
    refine W_list (ι := KS) u.kids (fun i r c => kOk c ((u.kids.take i).map U.cs) ∧ (Store.keys (kSt c ((u.kids.take i).map U.cs) ++ (σw ++ (σh ++ [(b2, AObj.cells 28 [.int .i64 0, .int .i64 0, .int .i64 0, .int .i64 0, .str [], .nil, .nil, .nil]), (b1, AObj.cells 28 [.int .i64 u.id.act, .int .i64 u.id.item, .int .i64 u.id.n, .int .i64 u.kind, .str u.label, .sc (.slice bh u.head.length ch), .sc (.slice bw u.words.length cw), .lst 8 (u.kids.map U.cs)])])))).Nodup)
      (fun i c => [(1, .sc (.pointer (some ⟨b1, 0, none⟩))), (2, .sc (.pointer (some ⟨b2, 0, none⟩))), (3, kAV c i), (15, .lst 8 (u.kids.map U.cs)), (16, .int .i64 u.kids.length), (17, .int .i64 i)])
      (fun i c => kSt c ((u.kids.take i).map U.cs) ++ (σw ++ (σh ++ [(b2, AObj.cells 28 [.int .i64 0, .int .i64 0, .int .i64 0, .int .i64 0, .str [], .nil, .nil, .nil]), (b1, AObj.cells 28 [.int .i64 u.id.act, .int .i64 u.id.item, .int .i64 u.id.n, .int .i64 u.kind, .str u.label, .sc (.slice bh u.head.length ch), .sc (.slice bw u.words.length cw), .lst 8 (u.kids.map U.cs)])]))) none ⟨rfl, hnd3⟩ (Weak.rfl' _ _) (by omega) (fun i x r c hok hx hw => ?_) (fun c hok hn => ?_)
    · have hil : ((u.kids.take i).map U.cs).length = i := by rw [List.length_map, List.length_take]; have := hx.lt; omega
      have hws := kWS hok.1
      rw [hil] at hws
      (try simp -dsimp -implicitDefEqProofs only [EV1, EV2, EV3, EV4, EV5, seval, ↓reduceIte, reduceCtorEq, eq_self, Option.map_some, decide_true, decide_false, EV6, EV7, hx.yes, hx.le0, hx.lt', hx.row, hw, hx.get, sget_app h11, sget_app h12, sset_app h11, sset_app h12, sget_app h21, sget_app h22, sset_app h21, sset_app h22, hb12, hb21, List.append_eq])
      intro b5 hb5
      (try simp -dsimp -implicitDefEqProofs only [EV1, EV2, EV3, EV4, EV5, seval, ↓reduceIte, reduceCtorEq, eq_self, Option.map_some, decide_true, decide_false, EV6, EV7, hx.yes, hx.le0, hx.lt', hx.row, hw, hx.get, sget_app h11, sget_app h12, sset_app h11, sset_app h12, sget_app h21, sget_app h22, sset_app h21, sset_app h22, hb12, hb21, List.append_eq])
      refine CALL_pure (CopyR.freeze (ih x hx.mem (hs.kid hx.mem))) ?_
      (try simp -dsimp -implicitDefEqProofs only [EV1, EV2, EV3, EV4, EV5, seval, ↓reduceIte, reduceCtorEq, eq_self, Option.map_some, decide_true, decide_false, EV6, EV7, hx.yes, hx.le0, hx.lt', hx.row, hw, hx.get, sget_app h11, sget_app h12, sset_app h11, sset_app h12, sget_app h21, sget_app h22, sset_app h21, sset_app h22, hb12, hb21, List.append_eq])
      intro b6 hb6
      refine ⟨[x.cs], rfl, by simp [U.cs_len], by simp, ?_⟩
      (try simp -dsimp -implicitDefEqProofs only [EV1, EV2, EV3, EV4, EV5, seval, ↓reduceIte, reduceCtorEq, eq_self, Option.map_some, decide_true, decide_false, EV6, EV7, sget_app h11, sget_app h12, sset_app h11, sset_app h12, sget_app h21, sget_app h22, sset_app h21, sset_app h22, hb12, hb21, List.append_eq])
      refine RAW_frameN (kSt c ((u.kids.take i).map U.cs)) (σw ++ (σh ++ [(b2, AObj.cells 28 [.int .i64 0, .int .i64 0, .int .i64 0, .int .i64 0, .str [], .nil, .nil, .nil]), (b1, AObj.cells 28 [.int .i64 u.id.act, .int .i64 u.id.item, .int .i64 u.id.n, .int .i64 u.kind, .str u.label, .sc (.slice bh u.head.length ch), .sc (.slice bw u.words.length cw), .lst 8 (u.kids.map U.cs)])])) (((SubN.refl _).tail _).tail _) ?_
      refine RAW_appendZ (e := 28) (e' := 28) (sz := 8) (bytes := 120) (rows := (u.kids.take i).map U.cs) (ys := [x.cs]) (g := c.map (·.1)) (xv := kAV c i) (by kernel_rfl) (by kernel_rfl) (by kernel_rfl) (by kernel_rfl) (by decide) (by decide) rfl hws ⟨rfl, rfl⟩ (by rw [hil]; simp only [List.length_cons, List.length_nil]; have := hx.lt; omega) (fun _ h => by cases h) (fun b cap pad hb hle hcm hr2 hln hnd => ?_)
      rw [kErase] at hnd ⊢
      have hlen1 : ((u.kids.take i).map U.cs ++ [x.cs]).length = i + 1 := by rw [List.length_append, hil]; rfl
      have htk : (u.kids.take (i + 1)).map U.cs = (u.kids.take i).map U.cs ++ [x.cs] := by rw [hx.take]; simp
      (try simp -dsimp -implicitDefEqProofs only [EV1, EV2, EV3, EV4, EV5, seval, ↓reduceIte, reduceCtorEq, eq_self, Option.map_some, decide_true, decide_false, EV6, EV7, hw, hlen1, sget_app h11, sget_app h12, sset_app h11, sset_app h12, sget_app h21, sget_app h22, sset_app h21, sset_app h22, hb12, hb21, List.append_eq])
      refine LK_next hx (some (b, cap, pad)) ⟨?_, ?_⟩ ?_
      · rw [htk]; exact ⟨hle, hcm, hr2, hln⟩
      · rw [htk]; exact hnd
      · rw [htk]; exact Weak.rfl' _ _
    · rw [List.take_length] at hok ⊢
      obtain ⟨bk, ck, hle, hop⟩ := kS hok.1
      rw [List.length_map] at hle
      have hnk := hok.2
      have hk1 : b1 ∉ (kSt c (u.kids.map U.cs)).keys := nd_app hnk (by simp [Store.keys])
      have hk2 : b2 ∉ (kSt c (u.kids.map U.cs)).keys := nd_app hnk (by simp [Store.keys])
      have fin : ∀ v : AV, AVle1 v (.sc (.slice bk u.kids.length ck)) → RET (.agg [.int .i64 u.id.act, .int .i64 u.id.item, .int .i64 u.id.n, .int .i64 u.kind, .str u.label, .sc (.slice bh u.head.length ch), .sc (.slice bw u.words.length cw), v])
          (kSt c (u.kids.map U.cs) ++ (σw ++ (σh ++ [(b2, AObj.cells 28 [.int .i64 u.id.act, .int .i64 u.id.item, .int .i64 u.id.n, .int .i64 u.kind, .str u.label, .sc (.slice bh u.head.length ch), .sc (.slice bw u.words.length cw), v]), (b1, AObj.cells 28 [.int .i64 u.id.act, .int .i64 u.id.item, .int .i64 u.id.n, .int .i64 u.kind, .str u.label, .sc (.slice bh u.head.length ch), .sc (.slice bw u.words.length cw), v])]))) (CopyR u) := fun v hv =>
        RET.le (y := .agg [.int .i64 u.id.act, .int .i64 u.id.item, .int .i64 u.id.n, .int .i64 u.kind, .str u.label, .sc (.slice bh u.head.length ch), .sc (.slice bw u.words.length cw), .sc (.slice bk u.kids.length ck)])
          (.inr ⟨.inl rfl, .inl rfl, .inl rfl, .inl rfl, .inl rfl, .inl rfl, .inl rfl, hv, trivial⟩) (SubN.app (SubN.app SubN.appL)) ⟨bh, ch, σh, bw, cw, σw, bk, ck, _, rfl, rfl, by simpa using hOh, by simpa using hOw, by simpa using hop⟩
      rcases c with _ | ⟨b, cap, pad⟩
      · simp only [kAV] at *
        (try simp -dsimp -implicitDefEqProofs only [EV1, EV2, EV3, EV4, EV5, seval, ↓reduceIte, reduceCtorEq, eq_self, Option.map_some, decide_true, decide_false, EV6, EV7, hn, sget_app hk1, sget_app hk2, sset_app hk1, sset_app hk2, sget_app h11, sget_app h12, sset_app h11, sset_app h12, sget_app h21, sget_app h22, sset_app h21, sset_app h22, hb12, hb21, List.append_eq])
        exact fin _ hle
      · simp only [kAV] at *
        (try simp -dsimp -implicitDefEqProofs only [EV1, EV2, EV3, EV4, EV5, seval, ↓reduceIte, reduceCtorEq, eq_self, Option.map_some, decide_true, decide_false, EV6, EV7, hn, sget_app hk1, sget_app hk2, sset_app hk1, sset_app hk2, sget_app h11, sget_app h12, sset_app h11, sset_app h12, sget_app h21, sget_app h22, sset_app h21, sset_app h22, hb12, hb21, List.append_eq])
        exact fin _ hle)
end
end Go.Av
end
