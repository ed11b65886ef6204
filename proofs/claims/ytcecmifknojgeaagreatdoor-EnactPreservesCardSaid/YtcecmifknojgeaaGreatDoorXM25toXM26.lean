/-
  ENACT, M25: a unit changed in a copy of the tree.
-/
import Derived.Test.YtcecmifknojgeaaGreatDoorXAv34toXAv36
import Derived.Test.YtcecmifknojgeaaGreatDoorXM23toXM24
section
namespace Go.Av
open Go Go.RowKit Go.Proofs
set_option linter.unusedSimpArgs false
set_option linter.unusedVariables false

def U.csv (x : U) (v : AV) : List AV := [.int .i64 x.id.act, .int .i64 x.id.item, .int .i64 x.id.n, .int .i64 x.kind, .str x.label, .lst 4 (x.head.map Wd.cs), .lst 4 (x.words.map Wd.cs), v]
def DoesU (G : Glob) (f : Value) (g : U → U) (σ : Store) (x : U) : Prop :=
  ∀ b v κ, OpenL 27 8 (x.kids.map U.cs) v κ → (Store.keys ((b, AObj.cells 27 (x.csv v)) :: (σ ++ κ))).Nodup →
    VSpec G Tryz.prog f [.sc (.pointer (some ⟨b, 0, none⟩))] ((b, .cells 27 (x.csv v)) :: (σ ++ κ)) (fun r σ' => ∃ v' κ', OpenL 27 8 ((g x).kids.map U.cs) v' κ' ∧ σ' = (b, .cells 27 ((g x).csv v')) :: (σ ++ κ'))
theorem U.csv_frz {x : U} {v : AV} {κ : Store} (h : OpenL 27 8 (x.kids.map U.cs) v κ) : FrzL κ (x.csv v) x.cs := by
  rw [U.cs_eq]
  exact ⟨.inl rfl, .inl rfl, .inl rfl, .inl rfl, .inl rfl, .inl rfl, .inl rfl, .inr ⟨27, 8, _, _, h, fun q hq => hq, rfl⟩, trivial⟩
theorem split_at {i : Idd} {us a b : List U} {k : U} (e : us = a ++ k :: b) (hn : (U.idss us).Nodup) (hi : i ∈ k.ids) : Split i us a k b := by
  subst e
  have e : U.idss (a ++ k :: b) = U.idss a ++ (k.ids ++ U.idss b) := by
    induction a with
    | nil => rw [List.nil_append, U.idss_cons, U.idss_nil]; rfl
    | cons x a ih =>
      rw [List.cons_append, U.idss_cons, U.idss_cons]
      rw [List.cons_append, U.idss_cons] at hn
      rw [ih (List.nodup_append.1 hn).2.1, List.append_assoc]
  rw [e] at hn
  obtain ⟨n1, n2, n3⟩ := List.nodup_append.1 hn
  obtain ⟨n4, n5, n6⟩ := List.nodup_append.1 n2
  exact ⟨rfl, hi, fun h => n3 i h i (List.mem_append.2 (.inl hi)) rfl, fun h => n6 i hi i h rfl, n4⟩
theorem fnd_split {i : Idd} {u : U} {a b : List U} {k : U} (h : u.id ≠ i) (s : Split i u.kids a k b) : fnd i u = fnd i k := by
  unfold Go.Av.fnd
  rw [s.way h]
  have := way_pos s.mem
  cases hk : U.way i k <;> simp_all [List.getLastD_cons]
theorem SubN.comm5 {a b c d e : Nat × AObj} {σ : Store} : SubN (c :: d :: e :: σ) (σ ++ [a, b, c, d, e]) :=
  SubN.trans (SubN.tail (SubN.tail (SubN.refl _) _) _) (SubN.perm (List.perm_append_comm (l₁ := [a, b, c, d, e]) (l₂ := σ)))
theorem nd_pull {κ σ : Store} {p b : Nat} {A B C : AObj} (h : (κ ++ (p, A) :: (b, B) :: σ : Store).keys.Nodup) : (Store.keys ((b, C) :: (σ ++ κ))).Nodup := by
  have := (SubN.trans (SubN.cons (SubN.perm List.perm_append_comm) _) (SubN.trans (SubN.cons (SubN.tail (SubN.refl _) _) _) SubN.pull2')).2 h
  simpa [Store.keys] using this

section
variable (G : Glob)
set_option maxHeartbeats 4000000 in
theorem f94 (f : Value) (g : U → U) (σ : Store) (i : Idd) : ∀ (u : U), u.Short → u.ids.Nodup → i ∈ u.ids → DoesU G f g σ (fnd i u) →
    FnSpec G Tryz.prog 94 [.agg u.cs, .agg i.cs, .sc f] σ (fun r σ' => r = .agg (U.wth i g u).cs ∧ σ' = σ) := by
  refine U.ind fun u ih hs hn hi hD => ?_
  have hkl := hs.1.kids
  have hCl := f168 G (u.kids.map U.cs) (rows8 _) (by rw [List.length_map]; omega)
  refine FnSpec.freezeK (R1 := fun σ' => σ' = σ) ?_
  refine FnSpec.w c94 ?_
  unfold s94 r94
  by_cases h0 : u.id = i
  · have e0 : decide (u.id = i) = true := decide_eq_true h0
    have hfu : fnd i u = u := fnd_last (by rw [way_here h0]; rfl)
    rw [hfu] at hD
    rw [wth_here h0, U.cs_eq u]
    (repeat' (first | simp -dsimp -implicitDefEqProofs only [EVz, seval, ↓reduceIte, reduceCtorEq, EV6, EV7, idd_eq, e0, hne] | simp -dsimp -implicitDefEqProofs only [EVz, seval, ↓reduceIte, reduceCtorEq, EV6, EV7, idd_eq, e0] | (with_reducible intro blk hblk; (try (have hnx := hblk; simp only [EVK] at hnx; (have hne := hnx)))) | fail))
    rename_i b3 hb3
    refine CALL_perm [] ((blk, _) :: (b3, _) :: σ) hCl.v (AVleA.rfl' _) (SubN.refl _) (fun v κ ho hnd => ⟨_, SubN.pull2', ?_⟩)
    have hv := ho
    obtain ⟨base, cap, rfl, _⟩ := hv
    have q1 : ¬ b3 = blk := fun e => hne.1 e.symm
    (repeat' (simp -dsimp -implicitDefEqProofs only [EVz, seval, ↓reduceIte, reduceCtorEq, EV6, EV7, q1, hne]))
    rw [List.length_map] at ho
    have hDD := hD b3 _ κ ho (nd_pull hnd)
    simp only [U.csv] at hDD
    refine CALL_perm ((b3, _) :: (σ ++ κ)) [(blk, _)] hDD (AVleA.rfl' _) SubN.push' (fun r σ2 hr hnd2 => ?_)
    obtain ⟨v2, κ2, ho2, rfl⟩ := hr
    refine ⟨_, SubN.pop', ?_⟩
    have hv := ho2
    obtain ⟨base2, cap2, rfl, _⟩ := hv
    (repeat' (simp -dsimp -implicitDefEqProofs only [EVz, seval, ↓reduceIte, reduceCtorEq, EV6, EV7, q1, hne]))
    rw [List.length_map] at ho2
    refine RET.mk' (σ' := κ2 ++ σ) (SubN.tail (SubN.tail (SubN.refl _) _) _) ⟨_, κ2, σ, rfl, U.csv_frz ho2, rfl, rfl⟩
  · have e0 : decide (u.id = i) = false := decide_eq_false h0
    have hi' : i ∈ U.idss u.kids := by
      rw [U.ids_eq, List.mem_cons] at hi
      exact hi.resolve_left (Ne.symm h0)
    have hne0 : u.kids ≠ [] := by intro h; rw [h, U.idss_nil] at hi'; cases hi'
    have hnk := (U.nd_kids hn).1
    rw [U.cs_eq u]
    (repeat' (first | simp -dsimp -implicitDefEqProofs only [EVz, seval, ↓reduceIte, reduceCtorEq, EV6, EV7, idd_eq, e0, hne] | simp -dsimp -implicitDefEqProofs only [EVz, seval, ↓reduceIte, reduceCtorEq, EV6, EV7, idd_eq, e0] | (with_reducible intro blk hblk; (try (have hnx := hblk; simp only [EVK] at hnx; (have hne := hnx)))) | fail))
    rename_i b3 hb3
    refine CALL_perm [] ((blk, _) :: (b3, _) :: σ) hCl.v (AVleA.rfl' _) (SubN.refl _) (fun v κ ho hnd => ⟨_, SubN.pull2', ?_⟩)
    have hv := ho
    obtain ⟨base, cap, rfl, hv⟩ := hv
    rw [List.length_map] at ho
    rcases hv with ⟨h1, _⟩ | ⟨bk, pad, rfl, rfl, g1, g2, g3, g4⟩
    · exact absurd (List.map_eq_nil_iff.1 h1) hne0
    have q1 : ¬ b3 = blk := fun e => hne.1 e.symm
    have q0 : ¬ blk = b3 := hne.1
    simp [Store.keys] at hnd
    have q2 : ¬ bk = blk := hnd.1.1
    have q3 : ¬ bk = b3 := hnd.1.2.1
    have q2' : ¬ blk = bk := fun e => q2 e.symm
    have q3' : ¬ b3 = bk := fun e => q3 e.symm
    rw [List.length_map] at g1
    (repeat' (first | simp -dsimp -implicitDefEqProofs only [EVz, seval, ↓reduceIte, reduceCtorEq, EV6, EV7, List.length_map, hx.yes, hx.le0, hx.lt', hx.get, hx.row, hw] | simp -dsimp -implicitDefEqProofs only [EVz, seval, ↓reduceIte, reduceCtorEq, EV6, EV7, List.length_map, hn] | (refine W_list u.kids (fun i' r (c : Unit) => i ∈ U.idss r) (fun i' c => [(2, .sc f), (3, .sc (.pointer (some ⟨b3, 0, none⟩))), (4, .ref i.cs), (6, .sc (.pointer (some ⟨blk, 0, none⟩))), (7, .sc (.slice (some ⟨bk, 0, none⟩) u.kids.length cap)), (26, .sc (.slice (some ⟨bk, 0, none⟩) u.kids.length cap)), (27, .int .i64 u.kids.length), (28, .int .i64 i')]) (fun i' c => [(b3, .cells 27 (U.csv u (.lst 8 (u.kids.map U.cs)))), (blk, .cells 27 [.int .i64 0, .int .i64 0, .int .i64 0, .int .i64 0, .str [], .nil, .nil, .nil]), (bk, .cells 27 ((u.kids.map U.cs).flatten ++ pad))] ++ σ) () hi' (Weak.rfl' _ _) (by omega) (fun i' x r c hok hx hw => ?_) (fun c hok hn => ?_)) | fail))
    · have hil := hx.lt
      have hxg : u.kids[i']? = some x := by rw [List.getElem?_eq_getElem hil, ← hx.get x]; simp [hil]
      have hgk : (u.kids.map U.cs)[i']? = some x.cs := by rw [List.getElem?_map, hxg]; rfl
      have hgt : (((u.kids.map U.cs).flatten ++ pad).drop (0 + i' * 8)).take 8 = x.cs := by simpa using row_get (pad := pad) g3 hgk
      have hle8 : 8 ≤ (((u.kids.map U.cs).flatten ++ pad).drop (0 + i' * 8)).length := by
        rw [List.length_drop, g4]; omega
      have hle9 : 0 + i' * 8 + 8 ≤ ((u.kids.map U.cs).flatten ++ pad).length := by
        rw [g4]; omega
      have hF := f31 G i x (hs.kid hx.mem)
      unfold fndAV at hF
      simp only [Idd.cs] at hF
      by_cases hxi : i ∈ x.ids
      · rw [fnd_way hxi, if_neg (by simp)] at hF
        have heq : u.kids = u.kids.take i' ++ x :: u.kids.drop (i' + 1) := by
          have h3 : u.kids.drop i' = x :: u.kids.drop (i' + 1) := by
            rw [List.drop_eq_getElem_cons hil]
            congr 1
            rw [List.getElem?_eq_getElem hil] at hxg
            exact Option.some.inj hxg
          rw [← h3, List.take_append_drop]
        have sp := split_at heq hnk hxi
        have hfx := fnd_split h0 sp
        clear heq
        have hih := ih x hx.mem (hs.kid hx.mem) sp.nd hxi (by rw [← hfx]; exact hD)
        have hwu := sp.wth (f := g) h0
        have hset : splice ((u.kids.map U.cs).flatten ++ pad) (0 + i' * 8) (U.wth i g x).cs = ((u.kids.set i' (U.wth i g x)).map U.cs).flatten ++ pad := by
          rw [List.map_set]
          simpa using row_set (pad := pad) g3 (by rw [List.length_map]; exact hil) (U.cs_len _)
        have hks : u.kids.take i' ++ U.wth i g x :: u.kids.drop (i' + 1) = u.kids.set i' (U.wth i g x) := by
          rw [List.set_eq_take_append_cons_drop, if_pos hil]
        rw [hks] at hwu
        simp only [Idd.cs] at hih
        (repeat' (first | (with_reducible refine And.intro (by omega) ?_) | (with_reducible refine CALL_pure (hF) ?_) | simp -dsimp -implicitDefEqProofs only [EVz, seval, ↓reduceIte, reduceCtorEq, EV6, EV7, hx.yes, hx.le0, hx.lt', hx.get, hw, hgt, q0, q1, q2, q3, q2', q3', hne] | (with_reducible intro blk hblk; (try (have hnx := hblk; simp only [EVK] at hnx; (have hne := And.intro hnx hne)))) | fail))
        refine CALL_perm σ [_, _, _, _, _] hih.v (AVleA.rfl' _) (SubN.perm (List.perm_append_comm (l₁ := σ) (l₂ := [_, _, _, _, _]))) (fun r1 σ1 hr hnd2 => ?_)
        obtain ⟨rfl, rfl⟩ := hr
        refine ⟨_, SubN.comm5, ?_⟩
        (repeat' (first | (with_reducible refine And.intro (by omega) ?_) | simp -dsimp -implicitDefEqProofs only [EVz, seval, ↓reduceIte, reduceCtorEq, EV6, EV7, hx.yes, hx.le0, hx.lt', hx.get, hw, hgt, hset, q0, q1, q2, q3, q2', q3', U.csv, hne] | fail))
        refine RET.mk' (σ' := [(bk, _)] ++ σ1) (SubN.tail (SubN.tail (SubN.refl _) _) _) ⟨_, [(bk, _)], σ1, rfl, ?_, rfl, rfl⟩
        rw [hwu]
        refine U.csv_frz (x := { u with kids := u.kids.set i' (U.wth i g x) }) (OpenL.mk (by rw [List.length_map, List.length_set]) (by rw [List.length_map, List.length_set]; exact g1) g2 (rows8 _) ?_)
        rw [← g4, List.length_append, List.length_append, flat_len _ (rows8 _), flat_len _ (rows8 _), List.length_map, List.length_map, List.length_set]
      · have hw0 : (U.way i x).isEmpty = true := by rw [(way_no x).2 hxi]; rfl
        rw [hw0, if_pos rfl] at hF
        rw [U.idss_cons, List.mem_append] at hok
        have hok' := hok.resolve_left hxi
        (repeat' (first | (with_reducible refine And.intro (by omega) ?_) | (with_reducible refine CALL_pure (hF) ?_) | simp -dsimp -implicitDefEqProofs only [EVz, seval, ↓reduceIte, reduceCtorEq, EV6, EV7, hx.yes, hx.le0, hx.lt', hx.get, hw, hgt, q0, q1, q2, q3, q2', q3', hne] | (with_reducible intro blk hblk; (try (have hnx := hblk; simp only [EVK] at hnx; (have hne := And.intro hnx hne)))) | fail))
        exact LK_next hx () hok' (Weak.sub (SubN.tail (SubN.tail (SubN.refl _) _) _))
    · rw [U.idss_nil] at hok; cases hok
end
end Go.Av
end

section
namespace Go.Av
open Go Go.RowKit Go.Proofs
set_option linter.unusedSimpArgs false
set_option linter.unusedVariables false

theorem SubN.ins1 {t a b c : Nat × AObj} {κ : Store} : SubN ((κ ++ [t]) ++ [a, b, c]) (t :: a :: b :: c :: κ) := by
  have e : (κ ++ [t]) ++ [a, b, c] = κ ++ [t, a, b, c] := by simp
  rw [e]
  exact SubN.perm (List.perm_append_comm (l₁ := κ) (l₂ := [t, a, b, c]))
theorem SubN.ins2 {t a b c : Nat × AObj} {κ : Store} : SubN (a :: b :: c :: κ) ((κ ++ [t]) ++ [a, b, c]) := by
  have e : (κ ++ [t]) ++ [a, b, c] = κ ++ [t, a, b, c] := by simp
  rw [e]
  exact SubN.trans (SubN.tail (SubN.refl _) t) (SubN.perm (List.perm_append_comm (l₁ := [t, a, b, c]) (l₂ := κ)))
section
variable (G : Glob)
theorem d171 (bn j : Nat) (x : U) (hj : j < x.kids.length) (hl : x.kids.length < 1000000) :
    DoesU G (.func (.func 171) #[] #[.pointer (some ⟨bn, 0, none⟩)]) (fun y => { y with kids := delAt y.kids j }) [(bn, .cells 3 [.int .i64 j])] x := by
  intro b v κ ho hnd
  refine ⟨_, _, _, rfl, ?_⟩
  have hC := f172 G _ v κ ho j (by rw [List.length_map]; exact hj) (by rw [List.length_map]; exact hl)
  have hv := ho
  obtain ⟨base, cap, rfl, _⟩ := hv
  have q1 : ¬ b = bn := by simp [Store.keys] at hnd; exact hnd.1.1
  have q2 : ¬ bn = b := fun e => q1 e.symm
  have hw : IntKind.i64.wrap ((j : Int) + 1) = ((j + 1 : Nat) : Int) := by rw [wrap_i64 (by omega) (by omega)]; omega
  rw [List.length_map] at hC
  have hmd : (x.kids.map U.cs).take j ++ (x.kids.map U.cs).drop (j + 1) = (delAt x.kids j).map U.cs := by unfold delAt; rw [List.map_append, List.map_take, List.map_drop]
  rw [hmd] at hC
  show FnSpec G Tryz.prog 171 [.sc (.pointer (some ⟨b, 0, none⟩)), .sc (.pointer (some ⟨bn, 0, none⟩))] _ _
  simp only [U.csv]
  refine FnSpec.w c171 ?_
  unfold s171 r171
  (repeat' (first | simp -dsimp -implicitDefEqProofs only [EVz, seval, ↓reduceIte, reduceCtorEq, EV6, EV7, q1, q2, hw] | (with_reducible refine both_case ?_ ?_) | (with_reducible refine same_case ?_) | (refine CALL_perm κ [(b, _), (bn, _)] hC.v (AVleA.rfl' _) (SubN.perm (List.perm_append_comm (l₁ := κ) (l₂ := [_, _]))) (fun r1 σ1 hr hnd2 => ?_)) | (refine ⟨_, SubN.perm (List.perm_append_comm (l₁ := [_, _]) (l₂ := σ1)), ?_⟩) | (obtain ⟨base1, cap1, rfl, hop⟩ := hr) | fail))
  all_goals exact RET.mk' (SubN.refl _) ⟨_, σ1, ⟨base1, cap1, by rw [List.length_map], hop⟩, rfl⟩
theorem d99 (bw : Nat) (w : List Wd) (x : U) :
    DoesU G (.func (.func 99) #[] #[.pointer (some ⟨bw, 0, none⟩)]) (fun y => { y with words := w }) [(bw, .cells 24 [.lst 4 (w.map Wd.cs)])] x := by
  intro b v κ ho hnd
  have q1 : ¬ b = bw := by simp [Store.keys] at hnd; exact hnd.1.1
  have q2 : ¬ bw = b := fun e => q1 e.symm
  refine ⟨_, _, _, rfl, ?_⟩
  show FnSpec G Tryz.prog 99 [.sc (.pointer (some ⟨b, 0, none⟩)), .sc (.pointer (some ⟨bw, 0, none⟩))] _ _
  simp only [U.csv]
  refine FnSpec.w c99 ?_
  unfold s99 r99
  (repeat' (simp -dsimp -implicitDefEqProofs only [EVz, seval, ↓reduceIte, reduceCtorEq, EV6, EV7, q1, q2]))
  all_goals exact RET.mk' (SubN.refl _) ⟨_, κ, ho, rfl⟩
theorem d101 (bw : Nat) (w : List Wd) (x : U) :
    DoesU G (.func (.func 101) #[] #[.pointer (some ⟨bw, 0, none⟩)]) (fun y => { y with words := w }) [(bw, .cells 24 [.lst 4 (w.map Wd.cs)])] x := by
  intro b v κ ho hnd
  have q1 : ¬ b = bw := by simp [Store.keys] at hnd; exact hnd.1.1
  have q2 : ¬ bw = b := fun e => q1 e.symm
  refine ⟨_, _, _, rfl, ?_⟩
  show FnSpec G Tryz.prog 101 [.sc (.pointer (some ⟨b, 0, none⟩)), .sc (.pointer (some ⟨bw, 0, none⟩))] _ _
  simp only [U.csv]
  refine FnSpec.w c101 ?_
  unfold s101 r101
  (repeat' (simp -dsimp -implicitDefEqProofs only [EVz, seval, ↓reduceIte, reduceCtorEq, EV6, EV7, q1, q2]))
  all_goals exact RET.mk' (SubN.refl _) ⟨_, κ, ho, rfl⟩
theorem d103 (bw : Nat) (w : List Wd) (x : U) :
    DoesU G (.func (.func 103) #[] #[.pointer (some ⟨bw, 0, none⟩)]) (fun y => { y with head := w }) [(bw, .cells 24 [.lst 4 (w.map Wd.cs)])] x := by
  intro b v κ ho hnd
  have q1 : ¬ b = bw := by simp [Store.keys] at hnd; exact hnd.1.1
  have q2 : ¬ bw = b := fun e => q1 e.symm
  refine ⟨_, _, _, rfl, ?_⟩
  show FnSpec G Tryz.prog 103 [.sc (.pointer (some ⟨b, 0, none⟩)), .sc (.pointer (some ⟨bw, 0, none⟩))] _ _
  simp only [U.csv]
  refine FnSpec.w c103 ?_
  unfold s103 r103
  (repeat' (simp -dsimp -implicitDefEqProofs only [EVz, seval, ↓reduceIte, reduceCtorEq, EV6, EV7, q1, q2]))
  all_goals exact RET.mk' (SubN.refl _) ⟨_, κ, ho, rfl⟩
theorem d105 (bd : Nat) (d : Dd) (x : U) :
    DoesU G (.func (.func 105) #[] #[.pointer (some ⟨bd, 0, none⟩)]) (fun y => { y with label := d.it.label }) [(bd, .cells 36 d.cs)] x := by
  intro b v κ ho hnd
  have q1 : ¬ b = bd := by simp [Store.keys] at hnd; exact hnd.1.1
  have q2 : ¬ bd = b := fun e => q1 e.symm
  refine ⟨_, _, _, rfl, ?_⟩
  show FnSpec G Tryz.prog 105 [.sc (.pointer (some ⟨b, 0, none⟩)), .sc (.pointer (some ⟨bd, 0, none⟩))] _ _
  simp only [U.csv]
  unfold Dd.cs
  rw [Itm.cs_eq]
  refine FnSpec.w c105 ?_
  unfold s105 r105
  (repeat' (simp -dsimp -implicitDefEqProofs only [EVz, seval, ↓reduceIte, reduceCtorEq, EV6, EV7, q1, q2]))
  all_goals exact RET.mk' (SubN.refl _) ⟨_, κ, ho, rfl⟩
theorem d95 (bn bx j : Nat) (y x : U) (hj : j ≤ x.kids.length) (hl : x.kids.length < 1000000) :
    DoesU G (.func (.func 95) #[] #[.pointer (some ⟨bn, 0, none⟩), .pointer (some ⟨bx, 0, none⟩)]) (fun z => { z with kids := insAt z.kids j y }) [(bn, .cells 3 [.int .i64 j]), (bx, .cells 27 y.cs)] x := by
  intro b v κ ho hnd
  have hv := ho
  obtain ⟨base, cap, rfl, _⟩ := hv
  rw [List.length_map] at ho
  have q : ¬ b = bn ∧ ¬ b = bx ∧ ¬ bn = bx := by simp [Store.keys] at hnd; exact ⟨hnd.1.1, hnd.1.2.1, hnd.2.1.1⟩
  obtain ⟨q1, q2, q3⟩ := q
  have q1' : ¬ bn = b := fun e => q1 e.symm
  have q2' : ¬ bx = b := fun e => q2 e.symm
  have q3' : ¬ bx = bn := fun e => q3 e.symm
  have hC := fun bo => f96 G _ _ κ ho j (by rw [List.length_map]; exact hj) (by rw [List.length_map]; exact hl) bo y.cs (U.cs_len y)
  have hmd : putAt (x.kids.map U.cs) j y.cs = (insAt x.kids j y).map U.cs := by unfold putAt insAt; rw [List.map_append, List.map_cons, List.map_take, List.map_drop]
  rw [hmd] at hC
  refine ⟨_, _, _, rfl, ?_⟩
  show FnSpec G Tryz.prog 95 [.sc (.pointer (some ⟨b, 0, none⟩)), .sc (.pointer (some ⟨bn, 0, none⟩)), .sc (.pointer (some ⟨bx, 0, none⟩))] _ _
  simp only [U.csv, List.length_map]
  refine FnSpec.w c95 ?_
  unfold s95 r95
  (repeat' (first | simp -dsimp -implicitDefEqProofs only [EVz, seval, ↓reduceIte, reduceCtorEq, EV6, EV7, q1, q2, q3, q1', q2', q3', hne] | simp -dsimp -implicitDefEqProofs only [EVz, seval, ↓reduceIte, reduceCtorEq, EV6, EV7, q1, q2, q3, q1', q2', q3'] | (with_reducible intro blk hblk; (try (have hnx := hblk; simp only [EVK] at hnx; (have hne := hnx)))) | (with_reducible refine both_case ?_ ?_) | (with_reducible refine same_case ?_) | (refine ⟨[y.cs], rfl, (by simp [U.cs_len]), (by simp), ?_⟩) | (refine CALL_perm (κ ++ [(blk, _)]) [(b, _), (bn, _), (bx, _)] (hC blk).v (AVleA.rfl' _) SubN.ins1 (fun r1 σ1 hr hnd2 => ?_)) | (obtain ⟨κ1, ⟨base1, cap1, rfl, hop⟩, rfl⟩ := hr) | (refine ⟨_, SubN.ins2, ?_⟩) | fail))
  all_goals exact RET.mk' (SubN.refl _) ⟨_, κ1, ⟨base1, cap1, by rw [List.length_map], hop⟩, rfl⟩
theorem d106 (bn bx j : Nat) (y x : U) (hj : j ≤ x.kids.length) (hl : x.kids.length < 1000000) :
    DoesU G (.func (.func 106) #[] #[.pointer (some ⟨bn, 0, none⟩), .pointer (some ⟨bx, 0, none⟩)]) (fun z => { z with kids := insAt z.kids j y }) [(bn, .cells 3 [.int .i64 j]), (bx, .cells 27 y.cs)] x := by
  intro b v κ ho hnd
  have hv := ho
  obtain ⟨base, cap, rfl, _⟩ := hv
  rw [List.length_map] at ho
  have q : ¬ b = bn ∧ ¬ b = bx ∧ ¬ bn = bx := by simp [Store.keys] at hnd; exact ⟨hnd.1.1, hnd.1.2.1, hnd.2.1.1⟩
  obtain ⟨q1, q2, q3⟩ := q
  have q1' : ¬ bn = b := fun e => q1 e.symm
  have q2' : ¬ bx = b := fun e => q2 e.symm
  have q3' : ¬ bx = bn := fun e => q3 e.symm
  have hC := fun bo => f96 G _ _ κ ho j (by rw [List.length_map]; exact hj) (by rw [List.length_map]; exact hl) bo y.cs (U.cs_len y)
  have hmd : putAt (x.kids.map U.cs) j y.cs = (insAt x.kids j y).map U.cs := by unfold putAt insAt; rw [List.map_append, List.map_cons, List.map_take, List.map_drop]
  rw [hmd] at hC
  refine ⟨_, _, _, rfl, ?_⟩
  show FnSpec G Tryz.prog 106 [.sc (.pointer (some ⟨b, 0, none⟩)), .sc (.pointer (some ⟨bn, 0, none⟩)), .sc (.pointer (some ⟨bx, 0, none⟩))] _ _
  simp only [U.csv, List.length_map]
  refine FnSpec.w c106 ?_
  unfold s106 r106
  (repeat' (first | simp -dsimp -implicitDefEqProofs only [EVz, seval, ↓reduceIte, reduceCtorEq, EV6, EV7, q1, q2, q3, q1', q2', q3', hne] | simp -dsimp -implicitDefEqProofs only [EVz, seval, ↓reduceIte, reduceCtorEq, EV6, EV7, q1, q2, q3, q1', q2', q3'] | (with_reducible intro blk hblk; (try (have hnx := hblk; simp only [EVK] at hnx; (have hne := hnx)))) | (with_reducible refine both_case ?_ ?_) | (with_reducible refine same_case ?_) | (refine ⟨[y.cs], rfl, (by simp [U.cs_len]), (by simp), ?_⟩) | (refine CALL_perm (κ ++ [(blk, _)]) [(b, _), (bn, _), (bx, _)] (hC blk).v (AVleA.rfl' _) SubN.ins1 (fun r1 σ1 hr hnd2 => ?_)) | (obtain ⟨κ1, ⟨base1, cap1, rfl, hop⟩, rfl⟩ := hr) | (refine ⟨_, SubN.ins2, ?_⟩) | fail))
  all_goals exact RET.mk' (SubN.refl _) ⟨_, κ1, ⟨base1, cap1, by rw [List.length_map], hop⟩, rfl⟩
end
end Go.Av
end
