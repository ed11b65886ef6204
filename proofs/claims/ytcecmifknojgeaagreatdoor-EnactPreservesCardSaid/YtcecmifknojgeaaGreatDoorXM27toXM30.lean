/-
  ENACT, M27: a unit taken out; words, heading and label changed.
-/
import Derived.Test.YtcecmifknojgeaaGreatDoorXM25toXM26
import Derived.Test.YtcecmifknojgeaaGreatDoorXM19toXM20
section
namespace Go.Av
open Go Go.RowKit Go.Proofs
set_option linter.unusedSimpArgs false
set_option linter.unusedVariables false

theorem good_par {u : U} (h : Good u) (i : Idd) (q : U × Nat × Nat) (e : wayPar i u = some q) : q.2.2 < q.1.kids.length ∧ q.1.kids.length ≤ 64 ∧ Par i u q.1 q.2.1 q.2.2 := by
  by_cases hi : i ∈ u.ids
  · obtain ⟨p, d, j⟩ := q
    have hp := way_parent u h.nd hi e
    obtain ⟨a, k, b, s, _, hj, _⟩ := hp.split
    have hm := fndm_flat u h.nd hp.mem
    rw [hp.fnd] at hm
    refine ⟨?_, nodeOk_few (h.node p hm), hp⟩
    show j < p.kids.length
    rw [s.eq, hj, List.length_append, List.length_cons]; omega
  · unfold wayPar at e
    rw [(way_no u).2 hi] at e
    simp at e
theorem good_hk {u : U} (h : Good u) : ∀ i q, wayPar i u = some q → q.2.2 < 1000000 := fun i q e => by
  obtain ⟨h1, h2, _⟩ := good_par h i q e
  omega
theorem good_fk {u : U} (h : Good u) (i : Idd) : (fnd i u).kids.length ≤ 64 := by
  by_cases hi : i ∈ u.ids
  · exact nodeOk_few (h.node _ (fndm_flat u h.nd hi))
  · unfold fnd
    rw [(way_no u).2 hi]
    simp [noU]
theorem good_hki {u : U} (h : Good u) : ∀ i w q, spot u i w = some q → q.2 < 1000000 := fun i w q e => by
  unfold spot at e
  split at e
  · injection e with e; subst e; simp
  · split at e
    · injection e with e; subst e
      have := good_fk h i
      simp only; omega
    · cases hw : wayPar i u with
      | none => rw [hw] at e; cases e
      | some r =>
        rw [hw] at e
        obtain ⟨h1, h2, _⟩ := good_par h i r hw
        injection e with e; subst e
        simp only
        split <;> omega

section
variable (G : Glob)
theorem f97 (u : U) (hu : Good u) (i : Idd) (hi : i ∈ u.ids) (hne0 : u.id ≠ i) : Pure G Tryz.prog 97 [.agg u.cs, .agg i.cs] (.agg (without i u).cs) := by
  have hs := hu.short
  obtain ⟨p, d, j, e1, e2, e3⟩ := par_some hu.nd hi hne0
  obtain ⟨hj, hk64, _⟩ := good_par hu i _ e1
  simp only at hj hk64
  have hP := f104 G i u hs hu.nd
  unfold parAV at hP
  rw [e1] at hP
  have hW := fun bn => f94 G _ _ _ p.id u hs hu.nd e3.mem (by rw [e3.fnd]; exact d171 G bn j p hj (by omega))
  have hwo : without i u = U.wth p.id (fun y => { y with kids := delAt y.kids j }) u := by unfold without; rw [e1]
  rw [hwo]
  simp only [Idd.cs] at hP hW
  refine Pure.w c97 fun R hR => ?_
  unfold s97 r97
  (repeat' (first | (with_reducible refine CALL_pure (hP) ?_) | simp -dsimp -implicitDefEqProofs only [EVz, seval, ↓reduceIte, reduceCtorEq, EV6, EV7, hne] | simp -dsimp -implicitDefEqProofs only [EVz, seval, ↓reduceIte, reduceCtorEq, EV6, EV7] | (with_reducible intro blk hblk; (try (have hnx := hblk; simp only [EVK] at hnx; first | (have hne := And.intro hnx hne) | (have hne := hnx)))) | (refine CALL_perm [(blk, _)] [(_, _), (_, _)] (hW blk).v (AVleA.rfl' _) (SubN.refl _) (fun r1 σ1 hr hnd2 => ?_)) | (obtain ⟨rfl, rfl⟩ := hr) | (refine ⟨_, SubN.refl _, ?_⟩) | fail))
  all_goals exact hR _ _ (.inl (.inl rfl))
theorem f60 (u : U) (hu : Good u) (x : U) (hi : x.id ∈ u.ids) (hne0 : u.id ≠ x.id) (d : Dd) : Pure G Tryz.prog 60 [.agg u.cs, .agg x.cs, .agg d.cs] (resAV (without x.id u, 0)) := by
  have hW := f97 G u hu x.id hi hne0
  simp only [Idd.cs] at hW
  unfold Dd.cs
  rw [U.cs_eq x, Itm.cs_eq]
  refine Pure.w c60 fun R hR => ?_
  unfold s60 r60
  (repeat' (first | (with_reducible refine CALL_pure (hW) ?_) | simp -dsimp -implicitDefEqProofs only [EVz, seval, ↓reduceIte, reduceCtorEq, EV6, EV7, hne] | simp -dsimp -implicitDefEqProofs only [EVz, seval, ↓reduceIte, reduceCtorEq, EV6, EV7] | (with_reducible intro blk hblk; (try (have hnx := hblk; simp only [EVK] at hnx; (have hne := hnx)))) | fail))
  all_goals exact hR _ _ (.inl (.inl rfl))
theorem f61 (u : U) (hu : Good u) (x : U) (hi : x.id ∈ u.ids) (d : Dd) (hw : x.words.length ≤ 256) (hk : d.it.kind = 2) (ho : d.it.old ≠ []) (hol : d.it.old.length ≤ 256) (hnl : d.it.new.length ≤ 256) (hn : 0 ≤ d.it.nth ∧ d.it.nth ≤ 256) :
    Pure G Tryz.prog 61 [.agg u.cs, .agg x.cs, .agg d.cs] (resAV (if (editE x.words d.it d.act d.item).2 ≠ 0 then (u, (editE x.words d.it d.act d.item).2) else (U.wth x.id (fun y => { y with words := (editE x.words d.it d.act d.item).1 }) u, 0))) := by
  have hs := hu.short
  have hE := f98 G x.words d.it d.act d.item hw hk ho hol hnl hn
  unfold editAV at hE
  obtain ⟨⟨w, e⟩, hwe⟩ : ∃ q, editE x.words d.it d.act d.item = q := ⟨_, rfl⟩
  rw [hwe] at hE ⊢
  have hW := fun bw => f94 G _ _ _ x.id u hs hu.nd hi (d99 G bw w _)
  simp only [Idd.cs] at hW hE
  unfold Dd.cs
  rw [U.cs_eq x, Itm.cs_eq]
  refine Pure.w c61 fun R hR => ?_
  unfold s61 r61
  simp only at hR
  rcases Classical.em (e = 0) with h | h
  · subst h
    rw [if_neg (by simp)] at hR
    (repeat' (first | (with_reducible refine CALL_pure (hE) ?_) | simp -dsimp -implicitDefEqProofs only [EVz, seval, ↓reduceIte, reduceCtorEq, EV6, EV7, hne] | simp -dsimp -implicitDefEqProofs only [EVz, seval, ↓reduceIte, reduceCtorEq, EV6, EV7] | (with_reducible intro blk hblk; (try (have hnx := hblk; simp only [EVK] at hnx; first | (have hne := And.intro hnx hne) | (have hne := hnx)))) | (refine CALL_perm [(blk, _)] [(_, _)] (hW blk).v (AVleA.rfl' _) (SubN.refl _) (fun r1 σ1 hr hnd2 => ?_)) | (obtain ⟨rfl, rfl⟩ := hr) | (refine ⟨_, SubN.refl _, ?_⟩) | fail))
    all_goals exact hR _ _ (.inl (.inl rfl))
  · rw [if_pos h] at hR
    (repeat' (first | (with_reducible (refine split_case (fun h => ?_) (fun h => ?_)) <;> (try simp only [Da, Db, Dc, Dw, De, Df, Dg, Dh] at h)) | (with_reducible refine CALL_pure (hE) ?_) | simp -dsimp -implicitDefEqProofs only [EVz, seval, ↓reduceIte, reduceCtorEq, EV6, EV7, h, hne] | simp -dsimp -implicitDefEqProofs only [EVz, seval, ↓reduceIte, reduceCtorEq, EV6, EV7, h] | (with_reducible intro blk hblk; (try (have hnx := hblk; simp only [EVK] at hnx; first | (have hne := And.intro hnx hne) | (have hne := hnx)))) | (exfalso; omega) | fail))
    all_goals exact hR _ _ (.inl (.inl rfl))
theorem f62 (u : U) (hu : Good u) (x : U) (hi : x.id ∈ u.ids) (d : Dd) (hw : x.words.length ≤ 256) (hk : d.it.kind = 3) (hol : d.it.old.length ≤ 256) (hnl : d.it.new.length ≤ 256) (hn1 : 1 ≤ d.it.new.length) (hn : 0 ≤ d.it.nth ∧ d.it.nth ≤ 256) (h0n : d.it.old = [] → d.it.nth = 0) :
    Pure G Tryz.prog 62 [.agg u.cs, .agg x.cs, .agg d.cs] (resAV (if (editE x.words d.it d.act d.item).2 ≠ 0 then (u, (editE x.words d.it d.act d.item).2) else (U.wth x.id (fun y => { y with words := (editE x.words d.it d.act d.item).1 }) u, 0))) := by
  have hs := hu.short
  have hE := f100 G x.words d.it d.act d.item hw hk hol hnl hn1 hn h0n
  unfold editAV at hE
  obtain ⟨⟨w, e⟩, hwe⟩ : ∃ q, editE x.words d.it d.act d.item = q := ⟨_, rfl⟩
  rw [hwe] at hE ⊢
  have hW := fun bw => f94 G _ _ _ x.id u hs hu.nd hi (d101 G bw w _)
  simp only [Idd.cs] at hW hE
  unfold Dd.cs
  rw [U.cs_eq x, Itm.cs_eq]
  refine Pure.w c62 fun R hR => ?_
  unfold s62 r62
  simp only at hR
  rcases Classical.em (e = 0) with h | h
  · subst h
    rw [if_neg (by simp)] at hR
    (repeat' (first | (with_reducible refine CALL_pure (hE) ?_) | simp -dsimp -implicitDefEqProofs only [EVz, seval, ↓reduceIte, reduceCtorEq, EV6, EV7, hne] | simp -dsimp -implicitDefEqProofs only [EVz, seval, ↓reduceIte, reduceCtorEq, EV6, EV7] | (with_reducible intro blk hblk; (try (have hnx := hblk; simp only [EVK] at hnx; first | (have hne := And.intro hnx hne) | (have hne := hnx)))) | (refine CALL_perm [(blk, _)] [(_, _)] (hW blk).v (AVleA.rfl' _) (SubN.refl _) (fun r1 σ1 hr hnd2 => ?_)) | (obtain ⟨rfl, rfl⟩ := hr) | (refine ⟨_, SubN.refl _, ?_⟩) | fail))
    all_goals exact hR _ _ (.inl (.inl rfl))
  · rw [if_pos h] at hR
    (repeat' (first | (with_reducible (refine split_case (fun h => ?_) (fun h => ?_)) <;> (try simp only [Da, Db, Dc, Dw, De, Df, Dg, Dh] at h)) | (with_reducible refine CALL_pure (hE) ?_) | simp -dsimp -implicitDefEqProofs only [EVz, seval, ↓reduceIte, reduceCtorEq, EV6, EV7, h, hne] | simp -dsimp -implicitDefEqProofs only [EVz, seval, ↓reduceIte, reduceCtorEq, EV6, EV7, h] | (with_reducible intro blk hblk; (try (have hnx := hblk; simp only [EVK] at hnx; first | (have hne := And.intro hnx hne) | (have hne := hnx)))) | (exfalso; omega) | fail))
    all_goals exact hR _ _ (.inl (.inl rfl))
theorem f63 (u : U) (hu : Good u) (x : U) (hi : x.id ∈ u.ids) (d : Dd) (hnl : d.it.new.length ≤ 256) :
    Pure G Tryz.prog 63 [.agg u.cs, .agg x.cs, .agg d.cs] (resAV (U.wth x.id (fun y => { y with head := markW d.act d.item d.it.new 0 }) u, 0)) := by
  have hs := hu.short
  have hE := f102 G d.it.new d.act d.item 0 (by omega) (by omega) (by omega)
  obtain ⟨w, hwe⟩ : ∃ q, markW d.act d.item d.it.new 0 = q := ⟨_, rfl⟩
  rw [hwe] at hE ⊢
  have hW := fun bw => f94 G _ _ _ x.id u hs hu.nd hi (d103 G bw w _)
  simp only [Idd.cs] at hW hE
  unfold Dd.cs
  rw [U.cs_eq x, Itm.cs_eq]
  refine Pure.w c63 fun R hR => ?_
  unfold s63 r63
  (repeat' (first | (with_reducible refine CALL_pure (hE) ?_) | simp -dsimp -implicitDefEqProofs only [EVz, seval, ↓reduceIte, reduceCtorEq, EV6, EV7, hne] | simp -dsimp -implicitDefEqProofs only [EVz, seval, ↓reduceIte, reduceCtorEq, EV6, EV7] | (with_reducible intro blk hblk; (try (have hnx := hblk; simp only [EVK] at hnx; first | (have hne := And.intro hnx hne) | (have hne := hnx)))) | (refine CALL_perm [(blk, _)] [(_, _)] (hW blk).v (AVleA.rfl' _) (SubN.refl _) (fun r1 σ1 hr hnd2 => ?_)) | (obtain ⟨rfl, rfl⟩ := hr) | (refine ⟨_, SubN.refl _, ?_⟩) | fail))
  all_goals exact hR _ _ (.inl (.inl rfl))
variable (hG : GOk G)
include hG
theorem f64 (u : U) (hu : Good u) (x : U) (hx : x = fnd x.id u) (hi : x.id ∈ u.ids) (hne0 : u.id ≠ x.id) (d : Dd) :
    Pure G Tryz.prog 64 [.agg u.cs, .agg x.cs, .agg d.cs] (resAV (if takes (parR x.id u).1 (parR x.id u).1.kids { x with label := d.it.label } = 10 then (u, 10) else (U.wth x.id (fun y => { y with label := d.it.label }) u, 0))) := by
  have hs := hu.short
  obtain ⟨p, dd, j, e1, e2, e3⟩ := par_some hu.nd hi hne0
  obtain ⟨hj, hk64, _⟩ := good_par hu _ _ e1
  simp only at hj hk64
  have hP := f104 G x.id u hs hu.nd
  unfold parAV at hP
  rw [e1] at hP
  have hF := f31 G p.id u hs
  unfold fndAV at hF
  rw [fnd_way e3.mem, if_neg (by simp), e3.fnd] at hF
  have hT := f89 G hG p { x with label := d.it.label } (by omega)
  have hW := fun bd => f94 G _ _ _ x.id u hs hu.nd hi (d105 G bd d _)
  rw [e2]
  simp only
  obtain ⟨t, ht⟩ : ∃ t, takes p p.kids { x with label := d.it.label } = t := ⟨_, rfl⟩
  rw [ht] at hT ⊢
  rw [U.cs_eq { x with label := d.it.label }] at hT
  simp only [Idd.cs] at hW hP hF hT
  unfold Dd.cs at hW ⊢
  rw [Itm.cs_eq] at hW ⊢
  rw [U.cs_eq x]
  refine Pure.w c64 fun R hR => ?_
  unfold s64 r64
  rcases Classical.em (t = 10) with h | h
  · subst h
    rw [if_pos rfl] at hR
    (repeat' (first | (with_reducible refine CALL_pure (hP) ?_) | (with_reducible refine CALL_pure (hF) ?_) | (with_reducible refine CALL_pure (hT) ?_) | simp -dsimp -implicitDefEqProofs only [EVz, seval, ↓reduceIte, reduceCtorEq, EV6, EV7, hne] | simp -dsimp -implicitDefEqProofs only [EVz, seval, ↓reduceIte, reduceCtorEq, EV6, EV7] | (with_reducible intro blk hblk; (try (have hnx := hblk; simp only [EVK] at hnx; first | (have hne := And.intro hnx hne) | (have hne := hnx)))) | fail))
    all_goals exact hR _ _ (.inl (.inl rfl))
  · rw [if_neg h] at hR
    (repeat' (first | (with_reducible refine CALL_pure (hP) ?_) | (with_reducible refine CALL_pure (hF) ?_) | (with_reducible refine CALL_pure (hT) ?_) | simp -dsimp -implicitDefEqProofs only [EVz, seval, ↓reduceIte, reduceCtorEq, EV6, EV7, h, hne] | simp -dsimp -implicitDefEqProofs only [EVz, seval, ↓reduceIte, reduceCtorEq, EV6, EV7, h] | (with_reducible intro blk hblk; (try (have hnx := hblk; simp only [EVK] at hnx; first | (have hne := And.intro hnx hne) | (have hne := hnx)))) | fail))
    rename_i b4 _ _ _ b5 _ _ _ b6 _ _ _ b8 _ _ _
    refine CALL_perm [(b5, _)] [_, _, _, _] (hW b5).v (AVleA.rfl' _) (SubN.perm (List.perm_middle (l₁ := [_, _, _]) (l₂ := [_])).symm) (fun r1 σ1 hr hnd2 => ?_)
    obtain ⟨rfl, rfl⟩ := hr
    refine ⟨_, SubN.refl _, ?_⟩
    have q1 : ¬ b5 = b6 := by have := hne; intro e; subst e; simp at this
    (repeat' (simp -dsimp -implicitDefEqProofs only [EVz, seval, ↓reduceIte, reduceCtorEq, EV6, EV7, q1, hne]))
    all_goals exact hR _ _ (.inl (.inl rfl))
end
end Go.Av
end

section
namespace Go.Av
open Go Go.RowKit Go.Proofs
set_option linter.unusedSimpArgs false
set_option linter.unusedVariables false

theorem CALL_keep1 {G : Glob} {P : Program} {f : Value} {args : List AV} {x : Nat × AObj} {σ : Store} {K : AV → Store → Prop} {t : Tag K} {v : AV}
    (h : VSpec G P f args [x] fun r σ' => r = v ∧ σ' = [x]) (hk : K v (x :: σ)) : CALL G P f args (x :: σ) K t :=
  CALL_spec [x] σ h (AVleA.rfl' _) (SubN.refl _) (by rintro _ _ ⟨rfl, rfl⟩; exact hk)
theorem spot_le {u : U} (h : Good u) {i q : Idd} {wh : Int} {k : Nat} (e : spot u i wh = some (q, k)) : k ≤ (fnd q u).kids.length := by
  unfold spot at e
  split at e
  · injection e with e; injection e with e1 e2; omega
  · split at e
    · injection e with e; injection e with e1 e2; subst e1; omega
    · obtain ⟨⟨p, d, j⟩, e1, e2⟩ := Option.map_eq_some_iff.1 e
      obtain ⟨h1, h2, h3⟩ := good_par h i _ e1
      injection e2 with e3 e4
      subst e3
      rw [h3.fnd]
      show k ≤ p.kids.length
      change j < p.kids.length at h1
      simp only at e4
      split at e4 <;> omega
theorem anc_len {u : U} {q : Idd} (hq : q ∈ u.ids) : (anc q u).length + 1 = (U.way q u).length := by
  unfold anc
  rw [List.length_reverse, List.length_map, List.length_dropLast]
  have := way_pos hq
  omega
theorem SubN.six {n x a b c d : Nat × AObj} : SubN [n, x, a, b, c, d] [a, x, b, n, c, d] :=
  SubN.perm ((List.perm_middle (l₁ := [a, x, b]) (l₂ := [c, d])).trans (List.Perm.cons _ (List.Perm.swap _ _ _))).symm

section
variable (G : Glob) (hG : GOk G)
include hG
set_option maxHeartbeats 4000000 in
theorem f59 (u : U) (hu : Good u) (y : U) (d : Dd) (i : Idd) (hO : one u d.it.at_ = (i, 0)) (hk0 : d.it.kind = 0) (h0 : 0 ≤ d.it.wh) (h3 : d.it.wh ≤ 3) (hd : Unit0 d) (hp : d.it.at_.length < 1000000) (hp2 : d.it.to_.length < 1000000) :
    Pure G Tryz.prog 59 [.agg u.cs, .agg y.cs, .agg d.cs] (resAV (insP u i d)) := by
  have hs := hu.short
  have hcu := hu.cnt
  have hi : i ∈ u.ids := by have := one_mem (u := u) (p := d.it.at_); rw [hO] at this; exact this rfl
  have hDe := f88 G u d.it hs hcu hu.nd (good_hk hu) (good_hki hu) (.inl hk0) h0 h3 hp hp2
  have hde : dest u d.it = (match spot u i d.it.wh with | none => .inr 9 | some q => .inl q) := by
    unfold dest
    rw [hO]
    simp [hk0]
    rfl
  rw [hde] at hDe
  unfold insP
  have hsm := fun q k => spot_mem (q := q) (k := k) hu.nd hi (wh := d.it.wh)
  have hsl := fun q k => spot_le (q := q) (k := k) (i := i) (wh := d.it.wh) hu
  obtain ⟨z, hz⟩ : ∃ z, spot u i d.it.wh = z := ⟨_, rfl⟩
  rw [hz] at hDe hsm hsl ⊢
  unfold placeAV at hDe
  unfold Dd.cs
  rw [U.cs_eq y]
  rcases z with _ | ⟨q, k⟩
  · refine Pure.w c59 fun R hR => ?_
    unfold s59 r59
    unfold resAV at hR
    simp only at hDe hR
    rw [Itm.cs_eq] at hDe ⊢
    (repeat' (first | (with_reducible refine CALL_pure (hDe) ?_) | simp -dsimp -implicitDefEqProofs only [EVz, seval, ↓reduceIte, reduceCtorEq, EV6, EV7, hne] | simp -dsimp -implicitDefEqProofs only [EVz, seval, ↓reduceIte, reduceCtorEq, EV6, EV7] | (with_reducible intro blk hblk; (try (have hnx := hblk; simp only [EVK] at hnx; first | (have hne := And.intro hnx hne) | (have hne := hnx)))) | fail))
    all_goals exact hR _ _ (.inl (.inl rfl))
  · have hq := hsm q k rfl
    have hkl := hsl q k rfl
    simp only at hDe ⊢
    have hus := nodes_short hd.nodes (by have := hd.cnt; omega)
    have hSt := f43 G d.it.unit d.act d.item hus (by have h1 := wt_le hd.nodes; have h2 := hd.cnt; omega)
    obtain ⟨s1, s2, s3, s4, s5⟩ := stampU_ok d.it.unit d.act d.item hd.nodes
    obtain ⟨x, hx⟩ : ∃ x, stampU d.it.unit d.act d.item = x := ⟨_, rfl⟩
    rw [hx] at hSt s1 s2 s3 s4 s5 ⊢
    have hxs : x.Short := nodes_short s5 (by rw [s3]; have := hd.cnt; omega)
    have hF := f31 G q u hs
    unfold fndAV at hF
    rw [fnd_way hq, if_neg (by simp)] at hF
    have hfk := good_fk hu q
    have hanc := anc_len hq
    have hDp := f90 G u q x hs.1 hxs.1
    have hCu := f55 G u hs.1
    have hCx := f55 G x hxs.1
    have hIu := f30 G u hs.1
    have hIx := f30 G x hxs.1
    have hT := f89 G hG (fnd q u) x (by omega)
    have hxl : x.ids.length = x.flat.length := by unfold U.ids; rw [List.length_map]
    have hul : u.ids.length = u.flat.length := by unfold U.ids; rw [List.length_map]
    have hxf : x.flat.length ≤ 1024 := by rw [s3]; exact hd.cnt
    have hCF := fun bh => f91k G [(bh, .cells 70 [.lst 3 (u.ids.map Idd.cs)])] (.func (.func 92) #[] #[.pointer (some ⟨bh, 0, none⟩)]) (fun k => decide (k ∈ u.ids)) x.ids (by omega)
      (fun w _ => ⟨_, _, _, rfl, f92 G bh u.ids w (by omega)⟩)
    have hW := fun bn bx => f94 G _ _ _ q u hs hu.nd hq (d95 G bn bx k x _ hkl (by omega))
    have hcx2 : (0 : Int) ≤ x.cnt ∧ x.cnt ≤ 1024 := by unfold U.cnt; omega
    have hcu2 : (0 : Int) ≤ u.cnt ∧ u.cnt ≤ 1024 := by unfold U.cnt; omega
    have w3 : IntKind.i64.wrap (u.cnt + x.cnt) = u.cnt + x.cnt := wrap_i64 (by omega) (by omega)
    rw [← hanc]
    clear s1 s2 s4 hde hsm hsl hfk
    obtain ⟨P, hP⟩ : ∃ P, fnd q u = P := ⟨_, rfl⟩
    rw [hP] at hF hT hkl ⊢
    obtain ⟨t, ht⟩ : ∃ t, takes P P.kids x = t := ⟨_, rfl⟩
    rw [ht] at hT ⊢
    obtain ⟨an, han⟩ : ∃ an, (anc q u).length = an := ⟨_, rfl⟩
    rw [han] at hDp ⊢
    obtain ⟨ex, hex⟩ : ∃ ex, x.ids.any (fun k => decide (k ∈ u.ids)) = ex := ⟨_, rfl⟩
    rw [hex] at hCF ⊢
    simp only [Idd.cs] at hF hDp hW
    rw [U.cs_eq P] at hF hT
    unfold resAV
    rw [show (((an + 1 : Nat) : Int)) = (an : Int) + 1 by omega]
    refine Pure.w c59 fun R hR => ?_
    unfold s59 r59
    rw [Itm.cs_eq] at hDe ⊢
    rw [U.cs_eq d.it.unit] at hSt
    rcases Classical.em (t = 0) with h | h
    · subst h
      rw [if_neg (by simp)] at hR
      (repeat' (first | (with_reducible (first | refine split_case (fun h => ?_) (fun h => ?_) | refine gd_case (fun h => ?_) (fun h => ?_)) <;> (try simp only [Da, Db, Dc, Dw, De, Df, Dg, Dh] at h)) | (with_reducible refine CALL_pure (hDe) ?_) | (with_reducible refine CALL_pure (hF) ?_) | (with_reducible refine CALL_pure (hSt) ?_) | (with_reducible refine CALL_pure (hT) ?_) | (with_reducible refine CALL_pure (hDp) ?_) | (with_reducible refine CALL_pure (hCu) ?_) | (with_reducible refine CALL_pure (hCx) ?_) | (with_reducible refine CALL_pure (hIu) ?_) | (with_reducible refine CALL_pure (hIx) ?_) | simp -dsimp -implicitDefEqProofs only [EVz, seval, ↓reduceIte, reduceCtorEq, EV6, EV7, w3, hne] | simp -dsimp -implicitDefEqProofs only [EVz, seval, ↓reduceIte, reduceCtorEq, EV6, EV7, w3] | (with_reducible intro blk hblk; (try (have hnx := hblk; simp only [EVK] at hnx; first | (have hne := And.intro hnx hne) | (have hne := hnx)))) | (with_reducible refine both_case ?_ ?_) | (with_reducible refine same_case ?_) | (refine CALL_keep1 (hCF blk).v ?_) | fail))
      all_goals try (
        refine hR _ _ (.inl (.inl ?_))
        rw [if_pos (by first | exact .inl (by omega) | exact .inr (.inl (by omega)) | exact .inr (.inr (by omega)))]
        done)
      all_goals
        have hno : ¬ (64 ≤ P.kids.length ∨ 8 < (an : Int) + 1 + x.dep ∨ 1024 < u.cnt + x.cnt) := by omega
        rw [if_neg hno] at hR
      all_goals try (
        refine hR _ _ (.inl (.inl ?_))
        rw [if_pos (by assumption)]
        done)
      all_goals
        have hexf : ex = false := by assumption
        rw [hexf] at hR
        simp only [Bool.false_eq_true, if_false] at hR
        refine CALL_perm [(_, _), (_, _)] [_, _, _, _] (hW _ _).v (AVleA.rfl' _) SubN.six (fun r1 σ1 hr hnd2 => ?_)
        obtain ⟨rfl, rfl⟩ := hr
        refine ⟨_, SubN.refl _, ?_⟩
        (repeat' (simp -dsimp -implicitDefEqProofs only [EVz, seval, ↓reduceIte, reduceCtorEq, EV6, EV7, hne]))
        all_goals exact hR _ _ (.inl (.inl rfl))
    · rw [if_pos h] at hR
      (repeat' (first | (with_reducible (first | refine split_case (fun h => ?_) (fun h => ?_) | refine gd_case (fun h => ?_) (fun h => ?_)) <;> (try simp only [Da, Db, Dc, Dw, De, Df, Dg, Dh] at h)) | (with_reducible refine CALL_pure (hDe) ?_) | (with_reducible refine CALL_pure (hF) ?_) | (with_reducible refine CALL_pure (hSt) ?_) | (with_reducible refine CALL_pure (hT) ?_) | simp -dsimp -implicitDefEqProofs only [EVz, seval, ↓reduceIte, reduceCtorEq, EV6, EV7, h, hne] | simp -dsimp -implicitDefEqProofs only [EVz, seval, ↓reduceIte, reduceCtorEq, EV6, EV7, h] | (with_reducible intro blk hblk; (try (have hnx := hblk; simp only [EVK] at hnx; first | (have hne := And.intro hnx hne) | (have hne := hnx)))) | (with_reducible refine both_case ?_ ?_) | (with_reducible refine same_case ?_) | (exfalso; omega) | fail))
      all_goals exact hR _ _ (.inl (.inl rfl))
end
end Go.Av
end

section
namespace Go.Av
open Go Go.RowKit Go.Proofs
set_option linter.unusedSimpArgs false
set_option linter.unusedVariables false

theorem goes_mem {u : U} (h : Good u) {i t : Idd} (hi : i ∈ u.ids) (hne : u.id ≠ i) (ht : t ∈ u.ids) {wh : Int} (h0 : 0 ≤ wh) (h3 : wh ≤ 3) {q : Idd} {k : Nat} (e : goesP u i t wh = some (q, k)) : q ∈ u.ids ∧ q ∉ (fnd i u).ids ∧ q ∈ (without i u).ids := by
  obtain ⟨g1, g2, g3, A, B, hA, e1, e2⟩ := good_del h hi hne
  obtain ⟨own, dO, j, w1, w2, hp⟩ := par_some h.nd hi hne
  obtain ⟨a, x, b, s, hx, hj, hl⟩ := hp.split
  have hfx : fnd i u = x := fnd_last hl
  have hqu : q ∈ u.ids ∧ q ∉ (fnd i u).ids := by
    unfold goesP at e
    rw [w1] at e
    simp only at e
    split at e
    · cases e
    · rename_i hc
      rw [not_or] at hc
      split at e
      · injection e with e; injection e with e3 e4
        subst e3
        refine ⟨hp.mem, ?_⟩
        rw [hfx]
        have := (U.nd_kids hp.nd).2
        rw [s.eq, U.idss_app, U.idss_cons] at this
        exact fun hm => this (List.mem_append.2 (.inr (List.mem_append.2 (.inl hm))))
      · rename_i hti
        obtain ⟨⟨q', k'⟩, e5, e6⟩ := Option.map_eq_some_iff.1 e
        injection e6 with e7 e8
        subst e7
        have hr : ¬ (besides wh = true ∧ t = u.id) := by
          rintro ⟨r1, r2⟩
          have hh : wh = 2 ∨ wh = 3 := by simpa [besides] using r1
          unfold spot at e5
          rw [wayPar_here r2.symm] at e5
          rcases hh with hh | hh <;> simp [hh] at e5
        obtain ⟨P, dp, k2, hg⟩ := goal_of h.nd ht h0 h3 hr
        have := hg.spot
        rw [e5] at this
        injection this with this
        injection this with e9 e10
        simp only at e9 ⊢
        rw [e9]
        refine ⟨hg.mem, hg.out i hi fun hm => ?_⟩
        exact hc.1 ((under_iff u h.nd ht hi).2 ⟨hti, hm⟩)
  refine ⟨hqu.1, hqu.2, ?_⟩
  rw [e2]
  have := hqu.1
  rw [e1] at this
  rcases List.mem_append.1 this with hm | hm
  · exact List.mem_append.2 (.inl hm)
  · rcases List.mem_append.1 hm with hm | hm
    · exact absurd hm hqu.2
    · exact List.mem_append.2 (.inr hm)
theorem wths_len {i : Idd} {f : U → U} : ∀ us : List U, (U.wths i f us).length = us.length
  | [] => by rw [U.wths_nil]
  | u :: us => by
    rw [U.wths_cons]
    split
    · rw [List.length_cons, List.length_cons, wths_len us]
    · rfl
theorem fnd_without {u : U} (h : Good u) {i q : Idd} (hi : i ∈ u.ids) (hne : u.id ≠ i) (hq : q ∈ u.ids) (hqi : q ∉ (fnd i u).ids) {own : U} {dO j : Nat} (w1 : wayPar i u = some (own, dO, j)) :
    (fnd q (without i u)).kids.length = if q = own.id then own.kids.length - 1 else (fnd q u).kids.length := by
  have hp := way_parent u h.nd hi w1
  obtain ⟨a, x, b, s, hx, hj, hl⟩ := hp.split
  have hfx : fnd i u = x := fnd_last hl
  rw [hfx] at hqi
  have hW : without i u = U.wth own.id (fun y => { y with kids := delAt y.kids j }) u := by unfold without; rw [w1]
  subst hj
  have hway := way_out (t := q) h.nd hp s.eq hqi
  have hlast := (fnd_id u h.nd hq).2
  have hf2 : fnd q (without i u) = U.wth own.id (fun y => { y with kids := delAt y.kids a.length }) (fnd q u) := by
    rw [hW]
    refine fnd_last ?_
    rw [hway, List.getLast?_map, hlast, Option.map_some]
  rw [hf2]
  by_cases hqo : q = own.id
  · subst hqo
    rw [if_pos rfl, hp.fnd, wth_here rfl, s.eq]
    simp only
    rw [delAt_split, List.length_append, List.length_append, List.length_cons]; omega
  · rw [if_neg hqo, U.wth_eq, if_neg (by rw [(fnd_id u h.nd hq).1]; exact hqo)]
    exact wths_len _
theorem goes_le {u : U} (h : Good u) {i t : Idd} (hi : i ∈ u.ids) (hne : u.id ≠ i) (ht : t ∈ u.ids) {wh : Int} (h0 : 0 ≤ wh) (h3 : wh ≤ 3) {q : Idd} {k : Nat} (e : goesP u i t wh = some (q, k)) : k ≤ (fnd q (without i u)).kids.length := by
  obtain ⟨m1, m2, m3⟩ := goes_mem h hi hne ht h0 h3 e
  obtain ⟨own, dO, j, w1, w2, hp⟩ := par_some h.nd hi hne
  obtain ⟨p1, p2, _⟩ := good_par h i _ w1
  change j < own.kids.length at p1
  rw [fnd_without h hi hne m1 m2 w1]
  unfold goesP at e
  rw [w1] at e
  simp only at e
  split at e
  · cases e
  · split at e
    · injection e with e; injection e with e3 e4
      rw [if_pos e3.symm]; omega
    · obtain ⟨⟨q', k'⟩, e5, e6⟩ := Option.map_eq_some_iff.1 e
      have hsl := spot_le h e5
      injection e6 with e7 e8
      simp only at e7 e8
      subst e7
      by_cases hqo : q' = own.id
      · rw [if_pos hqo]
        rw [hqo, hp.fnd] at hsl
        split at e8
        · omega
        · rename_i hc
          have : ¬ j < k' := fun hjk => hc ⟨hqo, hjk⟩
          omega
      · rw [if_neg hqo]
        split at e8
        · rename_i hc; exact absurd hc.1 hqo
        · omega
end Go.Av
end

section
namespace Go.Av
open Go Go.RowKit Go.Proofs
set_option linter.unusedSimpArgs false
set_option linter.unusedVariables false

theorem SubN.seven {n x a b c d e : Nat × AObj} : SubN [n, x, a, b, c, d, e] [a, b, c, n, d, e, x] :=
  SubN.perm ((List.perm_middle (l₁ := [a, b, c]) (l₂ := [d, e, x])).trans (List.Perm.cons _ (List.perm_middle (l₁ := [a, b, c, d, e]) (l₂ := [])))).symm
section
variable (G : Glob)
theorem move_not (u X : U) (d : Dd) (e : Int) (he : e ≠ 0) (hDe : Pure G Tryz.prog 88 [.agg u.cs, .agg d.it.cs] (placeAV (.inr e))) : Pure G Tryz.prog 65 [.agg u.cs, .agg X.cs, .agg d.cs] (resAV (u, e)) := by
  unfold placeAV at hDe
  unfold Dd.cs resAV
  rw [Itm.cs_eq] at hDe ⊢
  rw [U.cs_eq X]
  refine Pure.w c65 fun R hR => ?_
  unfold s65 r65
  (repeat' (first | (with_reducible (refine split_case (fun h => ?_) (fun h => ?_)) <;> (try simp only [Da, Db, Dc, Dw, De, Df, Dg, Dh] at h)) | (with_reducible refine CALL_pure (hDe) ?_) | simp -dsimp -implicitDefEqProofs only [EVz, seval, ↓reduceIte, reduceCtorEq, EV6, EV7, he, hne] | simp -dsimp -implicitDefEqProofs only [EVz, seval, ↓reduceIte, reduceCtorEq, EV6, EV7, he] | (with_reducible intro blk hblk; (try (have hnx := hblk; simp only [EVK] at hnx; first | (have hne := And.intro hnx hne) | (have hne := hnx)))) | (exfalso; omega) | fail))
  all_goals exact hR _ _ (.inl (.inl rfl))
end

section
variable (G : Glob) (hG : GOk G)
include hG
set_option maxHeartbeats 4000000 in
theorem f65 (u : U) (hu : Good u) (d : Dd) (i : Idd) (hO : one u d.it.at_ = (i, 0)) (hne0 : u.id ≠ i) (hk6 : d.it.kind = 6) (h0 : 0 ≤ d.it.wh) (h3 : d.it.wh ≤ 3) (hp : d.it.at_.length < 1000000) (hp2 : d.it.to_.length < 1000000) :
    Pure G Tryz.prog 65 [.agg u.cs, .agg (fnd i u).cs, .agg d.cs] (resAV (if (one u d.it.to_).2 ≠ 0 then (u, (one u d.it.to_).2) else movP u i (one u d.it.to_).1 d)) := by
  have hs := hu.short
  have hcu := hu.cnt
  have hi : i ∈ u.ids := by have := one_mem (u := u) (p := d.it.at_); rw [hO] at this; exact this rfl
  have hDe := f88 G u d.it hs hcu hu.nd (good_hk hu) (good_hki hu) (.inr hk6) h0 h3 hp hp2
  have hXid := (fnd_id u hu.nd hi).1
  have hXf := fndm_flat u hu.nd hi
  have htm := one_mem (u := u) (p := d.it.to_)
  have hde : dest u d.it = if (one u d.it.to_).2 ≠ 0 then .inr (one u d.it.to_).2 else (match goesP u i (one u d.it.to_).1 d.it.wh with | none => .inr 9 | some q => .inl q) := by
    unfold dest
    rw [hO]
    simp [hk6]
    rfl
  rw [hde] at hDe
  obtain ⟨⟨t, e⟩, hte⟩ : ∃ z, one u d.it.to_ = z := ⟨_, rfl⟩
  rw [hte] at hDe htm ⊢
  simp only at hDe htm ⊢
  rcases Classical.em (e = 0) with he | he
  · subst he
    rw [if_neg (by simp)] at hDe ⊢
    have ht := htm rfl
    have hgm := fun q k => goes_mem (q := q) (k := k) hu hi hne0 ht h0 h3
    have hgl := fun q k => goes_le (q := q) (k := k) hu hi hne0 ht h0 h3
    unfold movP
    obtain ⟨z, hz⟩ : ∃ z, goesP u i t d.it.wh = z := ⟨_, rfl⟩
    rw [hz] at hDe hgm hgl ⊢
    rcases z with _ | ⟨q, k⟩
    · exact move_not G u _ d 9 (by omega) hDe
    · obtain ⟨m1, m2, m3⟩ := hgm q k rfl
      have hkl := hgl q k rfl
      obtain ⟨g1, g2, g3, g4⟩ := good_del hu hi hne0
      obtain ⟨own, dO, j, w1, w2, hpp⟩ := par_some hu.nd hi hne0
      have hP := f104 G i u hs hu.nd
      unfold parAV at hP
      rw [w1] at hP
      have hWo := f97 G u hu i hi hne0
      have hXs : (fnd i u).Short := hs.node hXf
      rw [w2]
      simp only
      obtain ⟨V, hV⟩ : ∃ V, without i u = V := ⟨_, rfl⟩
      rw [hV] at hWo g1 m3 hkl ⊢
      have hVs := g1.short
      have hF := f31 G q V hVs
      unfold fndAV at hF
      rw [fnd_way m3, if_neg (by simp)] at hF
      have hfk := good_fk g1 q
      have hanc := anc_len m3
      have hvl := g1.cnt
      clear hgm hgl hde htm g4 g2 g3 w1 w2 hpp hz m1 m2
      obtain ⟨X, hX⟩ : ∃ X, fnd i u = X := ⟨_, rfl⟩
      rw [hX] at hXid hXf hXs ⊢
      subst hXid
      have hDp := f90 G V q X hVs.1 hXs.1
      have hT := f89 G hG (fnd q V) X (by omega)
      have hW := fun bn bx => f94 G _ _ _ q V hVs g1.nd m3 (d106 G bn bx k X _ hkl (by omega))
      obtain ⟨P, hPe⟩ : ∃ P, fnd q V = P := ⟨_, rfl⟩
      rw [hPe] at hF hT hkl hfk ⊢
      obtain ⟨tk, htk⟩ : ∃ tk, takes P P.kids X = tk := ⟨_, rfl⟩
      rw [htk] at hT ⊢
      rw [← hanc]
      obtain ⟨an, han⟩ : ∃ an, (anc q V).length = an := ⟨_, rfl⟩
      rw [han] at hDp ⊢
      unfold placeAV at hDe
      simp only [Idd.cs] at hF hDp hP hWo hW
      simp only at hDe
      rw [U.cs_eq P] at hF hT
      rw [U.cs_eq X] at hT hDp hW ⊢
      unfold Dd.cs resAV
      rw [show (((an + 1 : Nat) : Int)) = (an : Int) + 1 by omega]
      refine Pure.w c65 fun R hR => ?_
      unfold s65 r65
      rw [Itm.cs_eq] at hDe ⊢
      rcases Classical.em (tk = 0) with h | h
      · subst h
        rw [if_neg (by simp)] at hR
        (repeat' (first | (with_reducible (first | refine split_case (fun h => ?_) (fun h => ?_) | refine gd_case (fun h => ?_) (fun h => ?_)) <;> (try simp only [Da, Db, Dc, Dw, De, Df, Dg, Dh] at h)) | (with_reducible refine CALL_pure (hDe) ?_) | (with_reducible refine CALL_pure (hP) ?_) | (with_reducible refine CALL_pure (hWo) ?_) | (with_reducible refine CALL_pure (hF) ?_) | (with_reducible refine CALL_pure (hT) ?_) | (with_reducible refine CALL_pure (hDp) ?_) | simp -dsimp -implicitDefEqProofs only [EVz, seval, ↓reduceIte, reduceCtorEq, EV6, EV7, idd_eq, hne] | simp -dsimp -implicitDefEqProofs only [EVz, seval, ↓reduceIte, reduceCtorEq, EV6, EV7, idd_eq] | (with_reducible intro blk hblk; (try (have hnx := hblk; simp only [EVK] at hnx; first | (have hne := And.intro hnx hne) | (have hne := hnx)))) | fail))
        all_goals try (
          refine hR _ _ (.inl (.inl ?_))
          rw [if_pos (by first | exact .inl ⟨by assumption, by omega⟩ | exact .inr (by omega))]
          done)
        all_goals
          have hno : ¬ ((q ≠ own.id ∧ 64 ≤ P.kids.length) ∨ 8 < (an : Int) + 1 + X.dep) := by
            rintro (⟨g2, g3⟩ | g4)
            · first
                | omega
                | exact g2 (by assumption)
            · omega
          rw [if_neg hno] at hR
          refine CALL_perm [(_, _), (_, _)] [_, _, _, _, _] (hW _ _).v (AVleA.rfl' _) SubN.seven (fun r1 σ1 hr hnd2 => ?_)
          obtain ⟨rfl, rfl⟩ := hr
          refine ⟨_, SubN.refl _, ?_⟩
          have hne := hnd2
          simp [Store.keys] at hne
          (repeat' (simp -dsimp -implicitDefEqProofs only [EVz, seval, ↓reduceIte, reduceCtorEq, EV6, EV7, hne]))
          all_goals exact hR _ _ (.inl (.inl rfl))
      · rw [if_pos h] at hR
        have h1 : decide (tk ≠ 0) = true := decide_eq_true h
        clear hDp hW hfk hanc hkl
        (repeat' (first | (with_reducible refine CALL_pure (hDe) ?_) | (with_reducible refine CALL_pure (hP) ?_) | (with_reducible refine CALL_pure (hWo) ?_) | (with_reducible refine CALL_pure (hF) ?_) | (with_reducible refine CALL_pure (hT) ?_) | simp -dsimp -implicitDefEqProofs only [EVz, seval, ↓reduceIte, reduceCtorEq, EV6, EV7, h1, hne] | simp -dsimp -implicitDefEqProofs only [EVz, seval, ↓reduceIte, reduceCtorEq, EV6, EV7, h1] | (with_reducible intro blk hblk; (try (have hnx := hblk; simp only [EVK] at hnx; first | (have hne := And.intro hnx hne) | (have hne := hnx)))) | fail))
        all_goals exact hR _ _ (.inl (.inl rfl))
  · rw [if_pos he] at hDe ⊢
    exact move_not G u _ d e he hDe
end
end Go.Av
end
