/-
  ENACT LAWS, 4: marks and IDs apart.
-/
import Derived.Test.YtcecmifknojgeaaGreatDoorXN2toXN3
import Derived.Test.YtcecmifknojgeaaGreatDoorXM1toXAv28
namespace Go.Av
open Go Go.RowKit Go.Proofs
set_option linter.unusedSimpArgs false
set_option linter.unusedVariables false

abbrev PKey := Int × Int
def pkVals (k : PKey) : List Value := [.int .i64 k.1, .int .i64 k.2]
def pkVal (k : PKey) : Value := .agg (pkVals k).toArray
theorem pk_dec (a b : PKey) : decide (a = b) = (decide (a.1 = b.1) && decide (a.2 = b.2)) := by
  rw [Bool.eq_iff_iff]; simp [Prod.ext_iff]
theorem eqK_pk (a b : PKey) : eqK [1, 1] (pkVals a) (pkVals b) = some (decide (a = b)) := by
  rw [pk_dec]
  simp only [pkVals, eqK, if_true, Option.map_some]
  congr 1
  rw [Bool.eq_iff_iff]; simp
theorem mapK_pk : MapK Tryz.prog 56 pkVal :=
  mapK_flat (fs := Tryz.prog.fieldsOf 56) (ks := [1, 1]) (by kernel_rfl) (by kernel_rfl) pkVals (fun _ => rfl) eqK_pk (fun k v hv n => by
    simp only [pkVals, List.mem_cons, List.not_mem_nil, or_false] at hv
    rcases hv with rfl | rfl <;> exact sameBits_int n _ _)
theorem mapK_mk : MapK Tryz.prog 62 idVal :=
  mapK_flat (fs := Tryz.prog.fieldsOf 62) (ks := [1, 1, 1]) (by kernel_rfl) (by kernel_rfl) idVals (fun _ => rfl) eqK_id (fun k v hv n => by
    simp only [idVals, List.mem_cons, List.not_mem_nil, or_false] at hv
    rcases hv with rfl | rfl | rfl <;> exact sameBits_int n _ _)
theorem rep_pk (a b : Int) : ∀ τ w v, Rep τ w (.agg [.int .i64 a, .int .i64 b]) v → v = pkVal (a, b) := by
  intro τ w v h
  simp only [Rep, RepL] at h
  obtain ⟨vs, rfl, _, u, us, h1, rfl, u2, us2, rfl, rfl, rfl⟩ := h
  have : vs = vs.toList.toArray := by simp
  rw [this, h1]; rfl
theorem rep_by (w : Wd) : ∀ τ ww v, Rep τ ww (.agg [.int .i64 w.act, .int .i64 w.item, .int .i64 w.at_]) v → v = idVal w.by3 := rep_id w.by3
def rf (d : Dd) : PKey := (d.act, d.item)
theorem pk_zero (d : Dd) : (decide (d.act = 0) && (decide (d.item = 0) && true)) = decide (rf d = (0, 0)) := by
  rw [pk_dec, Bool.and_true]; rfl

theorem app_fromE {e : TypeId} {sz bytes : Nat} {σ : Store} {blk : Nat} {ys : List (List AV)} {K : AV → Store → Prop} (κ : Store) (hget : σ.get blk = some (.tok e 0)) (hm : ∀ q ∈ κ, q ∈ σ) (hno : blk ∉ κ.keys) (hnd : κ.keys.Nodup) (hb : ys.length * bytes ≤ 140737488355328)
    (hk : ∀ g', (∀ b, g' = some b → b ∉ κ.keys) → K (.own g' e sz ys) (κ ++ tokS g' e (ys.length * sz))) : appX e sz bytes σ (some blk) [] ys K := by
  refine appX_one κ (fun b h => ?_) (by simpa using hb) ⟨fun q hq => ?_, fun _ => hnd⟩ (fun g' hg' => by simpa using hk g' hg')
  · injection h with h
    subst h
    simpa using hget
  · refine List.mem_filter.2 ⟨hm q hq, ?_⟩
    have : q.1 ≠ blk := fun h => hno (by rw [← h]; exact List.mem_map.2 ⟨q, hq, rfl⟩)
    simpa using this
theorem nd_part {α β : Type} [DecidableEq β] {F r : List α} {i : Nat} {x : α} (f : α → List β) (hx : Rest F i x r) (h : (F.flatMap f).Nodup) : ((F.take i).flatMap f ++ f x).Nodup := by
  have e : F = F.take (i + 1) ++ F.drop (i + 1) := (List.take_append_drop _ _).symm
  rw [e, List.flatMap_append, hx.take, List.flatMap_append] at h
  have h2 := (List.nodup_append.1 h).1
  simpa using h2

section
variable (G : Glob) (hG : GOk G)
include hG
set_option maxHeartbeats 20000000 in
theorem f6 (l : List Dd) (hl : l.length < 1000000000000000000) (hb : ∀ d ∈ l, d.it.big) : Pure G Tryz.prog 6 [.lst 28 (l.map Dd.cs)] (.bool true) := by
  have hAw := f10 G hG
  have hF := f12 G l hl hb
  have hE := f21 G
  refine Pure.w c6 fun R hR => ?_
  unfold s6 r6
  cases h2 : fewB l with
  | false =>
    rw [h2] at hF
    (repeat' (first | (with_reducible refine CALL_pure (hAw) ?_) | (with_reducible refine CALL_pure (hF) ?_) | simp -dsimp -implicitDefEqProofs only [EVz, seval, ↓reduceIte, reduceCtorEq, EV6, EV7] | fail))
    all_goals exact hR _ _ (.inl (.inl rfl))
  | true =>
    rw [h2] at hF
    obtain ⟨f1, f2⟩ := fewB_all h2
    (repeat' (first | (with_reducible refine CALL_pure (hAw) ?_) | (with_reducible refine CALL_pure (hF) ?_) | simp -dsimp -implicitDefEqProofs only [EVz, seval, ↓reduceIte, reduceCtorEq, EV6, EV7] | fail))
    refine RAW_makeMap ?_
    intro b3 hb3
    (repeat' (first | (with_reducible (first | refine split_case (fun h => ?_) (fun h => ?_) | refine gd_case (fun h => ?_) (fun h => ?_)) <;> (try simp only [Da, Db, Dc, Dw, De, Df, Dg, Dh] at h)) | simp -dsimp -implicitDefEqProofs only [EVz, seval, ↓reduceIte, reduceCtorEq, EV6, EV7, mset_get, pk_zero, Dd.cs, Itm.cs_eq, hx.yes, hx.le0, hx.lt', hx.get, hx.row, hw, hne] | simp -dsimp -implicitDefEqProofs only [EVz, seval, ↓reduceIte, reduceCtorEq, EV6, EV7, mset_get, pk_zero, Dd.cs, Itm.cs_eq, hx.yes, hx.le0, hx.lt', hx.get, hx.row, hw] | simp -dsimp -implicitDefEqProofs only [EVz, seval, ↓reduceIte, reduceCtorEq, EV6, EV7, mset_get, pk_zero, Dd.cs, Itm.cs_eq, hn] | simp -dsimp -implicitDefEqProofs only [EVz, seval, ↓reduceIte, reduceCtorEq, EV6, EV7, mset_get, pk_zero, Dd.cs, Itm.cs_eq] | (with_reducible intro blk hblk; (try (have hnx := hblk; simp only [EVK] at hnx; first | (have hne := And.intro hnx hne) | (have hne := hnx)))) | (refine W_list l (fun i r (c : Unit) => ((l.take i).map rf).Nodup ∧ (0, 0) ∉ (l.take i).map rf) (fun i c => [(0, .lst 28 (l.map Dd.cs)), (3, .sc (.map (some b3))), (24, .lst 28 (l.map Dd.cs)), (25, .int .i64 l.length), (26, .int .i64 i)]) (fun i c => [(b3, .map (mrows pkVal (mset ((l.take i).map rf))))]) () (by simp) (Weak.rfl' _ _) (by omega) (fun i x r c hok hx hw => ?_) (fun c hok hn => ?_) ) | (refine RAW_lookup mapK_pk (l := mset ((l.take i).map rf)) (k := rf x) (z := .bool false) (zv := .bool false) rfl (rep_pk _ _) (eT := 4) (by kernel_rfl) (by simp [Store.get, *]) (by kernel_rfl) (fun _ _ => by simp only [Rep]) ?_) | (refine RAW_mapUpdate mapK_pk (l := mset ((l.take i).map rf)) (k := rf x) (yv := .bool true) rfl (rep_pk _ _) rfl (eT := 4) (by kernel_rfl) (by simp [Store.get, *]) ?_) | fail))
    · exact hR _ _ (.inl (.inl rfl))
    · have hm : rf x ∉ (l.take i).map rf := by assumption
      have hz : ¬ rf x = (0, 0) := by assumption
      have e : (l.take i).map rf ++ [rf x] = (l.take (i + 1)).map rf := by rw [hx.take]; simp
      rw [mset_put, if_neg hm, e]
      refine LK_next hx () ⟨?_, ?_⟩ (Weak.sub ⟨fun p hp => List.mem_cons_of_mem _ (List.mem_cons_of_mem _ hp), fun _ => by simp [Store.keys]⟩)
      · rw [← e]
        refine List.nodup_append.2 ⟨hok.1, by simp, fun a ha b hb e => ?_⟩
        simp only [List.mem_singleton] at hb
        subst hb e
        exact hm ha
      · rw [← e, List.mem_append, List.mem_singleton]
        rintro (h | h)
        · exact hok.2 h
        · exact hz h.symm
    · exact hR _ _ (.inl (.inl rfl))
    · rw [List.take_length] at hok ⊢
      have hS : ∀ d ∈ l, d.it.Shorts := fun d hd => little_shorts d.it (hb d hd) (f1 d hd)
      have hA := (f17 G hG emptyU empty_good l (by omega) hS).lr (.cons le_zU (.cons (LeRep.refl _) .nil))
      have hI : Inv (allP emptyU l).1 (l.map rf ++ []) := all_inv empty_good empty_inv (fun d hd h => by cases h) hok.1
      rw [List.append_nil] at hI
      have hg := (all_good (l := l) empty_good).1
      unfold allAV at hA
      obtain ⟨⟨v, m⟩, hvm⟩ : ∃ z, allP emptyU l = z := ⟨_, rfl⟩
      rw [hvm] at hA hI hg
      simp only at hA hI hg
      have hEv := f22 G v hg.short.1
      have hFl : v.flat.length ≤ 1024 := hg.cnt
      have hids : (v.flat.map U.id).Nodup := hg.nd
      have hmk : (v.flat.flatMap fun y => marks5 y.k5).Nodup := by
        have := hI.nd
        unfold marks U.all5 at this
        rw [List.flatMap_map] at this
        exact this
      have hnode := hg.node
      obtain ⟨F, hFe⟩ : ∃ F, v.flat = F := ⟨_, rfl⟩
      have hmks : ∀ y ∈ F, ∀ w ∈ y.head ++ y.words, (w.act, w.item) ∈ l.map rf := fun y hy w hw => by
        refine hI.mks w.by3 ?_
        unfold marks U.all5
        rw [hFe]
        refine List.mem_flatMap.2 ⟨y.k5, List.mem_map.2 ⟨y, hy, rfl⟩, ?_⟩
        unfold marks5 U.k5
        rw [← List.map_append]
        exact List.mem_map.2 ⟨w, hw, rfl⟩
      have hidk : ∀ y ∈ F, y.kind ≠ 0 → (y.id.act, y.id.item) ∈ l.map rf := fun y hy hk => hI.id y.k5 (by unfold U.all5; rw [hFe]; exact List.mem_map.2 ⟨y, hy, rfl⟩) hk
      rw [hFe] at hEv hFl hids hmk hnode
      clear hFe hI hg hvm
      unfold zU at hA hE
      (repeat' (first | (with_reducible refine CALL_pure (hE) ?_) | (with_reducible refine CALL_pure (hA) ?_) | simp -dsimp -implicitDefEqProofs only [EVz, seval, ↓reduceIte, reduceCtorEq, EV6, EV7] | (with_reducible intro blk hblk; (try (have hnx := hblk; simp only [EVK] at hnx; (have hne := hnx)))) | fail))
      refine RAW_makeMap ?_
      intro b9 hb9
      (repeat' (simp -dsimp -implicitDefEqProofs only [EVz, seval, ↓reduceIte, reduceCtorEq, EV6, EV7, hne]))
      refine RAW_makeMap ?_
      intro b10 hb10
      have j9 : ¬ b9 = blk := by simp [Store.keys] at hb9; exact hb9.1
      have j10 : ¬ b10 = blk := by simp [Store.keys] at hb10; exact hb10.2.1
      have k9 : ¬ b9 = b3 := by simp [Store.keys] at hb9; exact hb9.2
      have k10 : ¬ b10 = b9 ∧ ¬ b10 = b3 := by simp [Store.keys] at hb10; exact ⟨hb10.1, hb10.2.2⟩
      have k9' : ¬ b3 = b9 := fun e => k9 e.symm
      have k10' : ¬ b9 = b10 ∧ ¬ b3 = b10 := ⟨fun e => k10.1 e.symm, fun e => k10.2 e.symm⟩
      clear hne hnx hblk hb9 hb10
      (repeat' (first | (with_reducible refine CALL_pure (hEv) ?_) | simp -dsimp -implicitDefEqProofs only [EVz, seval, ↓reduceIte, reduceCtorEq, EV6, EV7, j9, j10, hx.yes, hx.le0, hx.lt', hx.get, hx.row, hw] | simp -dsimp -implicitDefEqProofs only [EVz, seval, ↓reduceIte, reduceCtorEq, EV6, EV7, j9, j10, hn] | (with_reducible intro blk hblk; (try (have hnx := hblk; simp only [EVK] at hnx; (have hne := hnx)))) | (refine W_list F (fun i r (c : Unit) => True) (fun i c => [(3, .sc (.map (some b3))), (9, .sc (.map (some b9))), (10, .sc (.map (some b10))), (55, .lst 8 (F.map U.cs)), (56, .int .i64 F.length), (57, .int .i64 i)]) (fun i c => [(b10, .map (mrows idVal (mset ((F.take i).map U.id)))), (b9, .map (mrows idVal (mset ((F.take i).flatMap fun y => marks5 y.k5)))), (b3, .map (mrows pkVal (mset (l.map rf))))]) () trivial (Weak.sub ⟨fun p hp => by (simp only [List.mem_cons, List.not_mem_nil, or_false] at hp; rcases hp with rfl | rfl | rfl <;> simp [mset, mrows]), fun _ => by simp [Store.keys, k9, k10]⟩) (by omega) (fun i x r c hok hx hw => ?_) (fun c hok hn => ?_)) | fail))
      · have hm : x.id ∉ (F.take i).map U.id := by
          have h1 : (F.map U.id).Nodup := hids
          have e : F = F.take (i + 1) ++ F.drop (i + 1) := (List.take_append_drop _ _).symm
          rw [e, List.map_append, hx.take, List.map_append] at h1
          have h2 := (List.nodup_append.1 h1).1
          exact fun h => (List.nodup_append.1 h2).2.2 _ h x.id (by simp) rfl
        have e1 : decide (x.id ∈ (F.take i).map U.id) = false := decide_eq_false hm
        have e3 : mputs x.id (.bool true) (mset ((F.take i).map U.id)) = mset ((F.take (i + 1)).map U.id) := by rw [mset_put, if_neg hm, hx.take]; simp
        have hnd := nd_part (fun y => marks5 y.k5) hx hmk
        have hM : marks5 x.k5 = (x.head ++ x.words).map Wd.by3 := by rw [List.map_append]; rfl
        rw [hM] at hnd
        have hS1 := hmks x hx.mem
        have hsl := nodeOk_slim (hnode x hx.mem)
        have hl1 := hsl.head.1
        have hl2 := hsl.words.1
        have hkd : x.kind = 0 ∨ x.kind ≠ 0 := Classical.em _
        rcases hkd with hk0 | hk0
        case' inl =>
          have e2 : decide (x.kind ≠ 0) = false := decide_eq_false (fun h => h hk0)
          (repeat' (first | simp -dsimp -implicitDefEqProofs only [EVz, seval, ↓reduceIte, reduceCtorEq, EV6, EV7, e2, mset_get, e1, e3, hx.yes, hx.le0, hx.lt', hx.get, hx.row, hw, k9, k9', k10, k10', hne] | (with_reducible intro blk hblk; (try (have hnx := hblk; simp only [EVK] at hnx; (have hne := And.intro hnx hne)))) | (with_reducible refine both_case ?_ ?_) | (refine RAW_lookup mapK_id (l := mset ((F.take i).map U.id)) (k := x.id) (z := .bool false) (zv := .bool false) rfl (rep_id x.id) (eT := 4) (by kernel_rfl) (by simp [Store.get, *]) (by kernel_rfl) (fun _ _ => by simp only [Rep]) ?_) | (refine RAW_mapUpdate mapK_id (l := mset ((F.take i).map U.id)) (k := x.id) (yv := .bool true) rfl (rep_id x.id) rfl (eT := 4) (by kernel_rfl) (by simp [Store.get, *]) ?_) | (refine ⟨[], rfl, (by simp), rfl, ?_⟩) | fail))
        case' inr =>
          have e2 : decide (x.kind ≠ 0) = true := decide_eq_true hk0
          have e5 : decide ((x.id.act, x.id.item) ∈ l.map rf) = true := decide_eq_true (hidk x hx.mem hk0)
          (repeat' (first | (with_reducible (refine split_case (fun h => ?_) (fun h => ?_)) <;> (try simp only [Da, Db, Dc, Dw, De, Df, Dg, Dh] at h)) | simp -dsimp -implicitDefEqProofs only [EVz, seval, ↓reduceIte, reduceCtorEq, EV6, EV7, e2, e5, mset_get, e1, e3, hx.yes, hx.le0, hx.lt', hx.get, hx.row, hw, k9, k9', k10, k10', hne] | (with_reducible intro blk hblk; (try (have hnx := hblk; simp only [EVK] at hnx; (have hne := And.intro hnx hne)))) | (with_reducible refine both_case ?_ ?_) | (refine RAW_lookup mapK_id (l := mset ((F.take i).map U.id)) (k := x.id) (z := .bool false) (zv := .bool false) rfl (rep_id x.id) (eT := 4) (by kernel_rfl) (by simp [Store.get, *]) (by kernel_rfl) (fun _ _ => by simp only [Rep]) ?_) | (refine RAW_mapUpdate mapK_id (l := mset ((F.take i).map U.id)) (k := x.id) (yv := .bool true) rfl (rep_id x.id) rfl (eT := 4) (by kernel_rfl) (by simp [Store.get, *]) ?_) | (refine ⟨[], rfl, (by simp), rfl, ?_⟩) | (refine RAW_lookup mapK_pk (l := mset (l.map rf)) (k := (x.id.act, x.id.item)) (z := .bool false) (zv := .bool false) rfl (rep_pk _ _) (eT := 4) (by kernel_rfl) (by simp [Store.get, *]) (by kernel_rfl) (fun _ _ => by simp only [Rep]) ?_) | fail))
        all_goals try (exact absurd (hidk x hx.mem hk0) (by assumption))
        all_goals
          rename_i b12 _ _ _
          obtain ⟨n1, n2⟩ := hne
          refine app_fromE [(b12, _), (b10, _), (b9, _), (b3, _)] (by simp [Store.get]) (fun q hq => List.mem_cons_of_mem _ hq) hblk (by simp [Store.keys, n2, k9, k10]) (by simp; omega) (fun gn hgn => ?_)
          (repeat' (simp -dsimp -implicitDefEqProofs only [EVz, seval, ↓reduceIte, reduceCtorEq, EV6, EV7, n1, n2, hne]))
          have hgn2 : ∀ b, gn = some b → ¬ b = b12 ∧ ¬ b = b10 ∧ ¬ b = b9 ∧ ¬ b = b3 := fun b h => by simpa [Store.keys] using hgn b h
          refine app_keptL (sz := 4) (bytes := 40) (rows := x.head.map Wd.cs) (ys := x.words.map Wd.cs) [(b12, _)] [(b10, _), (b9, _), (b3, _)] ?_ ?_ (by simp) (by simp [Store.keys, k9, k10]) (by simp; omega) (fun gm hgm => ?_)
          · intro p hp
            simp only [List.mem_singleton] at hp
            subst hp
            cases gn with
            | none => simp [Store.keys, tokS, n2]
            | some b => simp [Store.keys, tokS, n2]; exact fun e => (hgn2 b rfl).1 e.symm
          · intro b h
            simp [Store.keys]
            exact (hgn2 b h).2
          (try simp -dsimp -implicitDefEqProofs only [EVz, seval, ↓reduceIte, reduceCtorEq, EV6, EV7, List.length_append, List.length_map])
          refine ⟨[(3, .sc (.map (some b3))), (9, .sc (.map (some b9))), (10, .sc (.map (some b10))), (55, .lst 8 (F.map U.cs)), (56, .int .i64 F.length), (57, .int .i64 i), (91, .lst 4 ((x.head ++ x.words).map Wd.cs)), (92, .int .i64 (x.head ++ x.words).length), (93, .int .i64 0)], [(b10, _), (b9, _), (b3, _)], Weak.of (by simp [EnvLe, Env.get, AVle, AVle1]) ⟨fun p hp => List.mem_append_left (tokS gm 64 ((x.head.length + x.words.length) * 4)) hp, fun _ => by simp [Store.keys, k9, k10]⟩, ?_⟩
          clear hgm hgn hgn2 hblk n1
          refine W_list (x.head ++ x.words) (fun j r (c : Unit) => True) (fun j c => [(3, .sc (.map (some b3))), (9, .sc (.map (some b9))), (10, .sc (.map (some b10))), (55, .lst 8 (F.map U.cs)), (56, .int .i64 F.length), (57, .int .i64 i), (91, .lst 4 ((x.head ++ x.words).map Wd.cs)), (92, .int .i64 (x.head ++ x.words).length), (93, .int .i64 j)]) (fun j c => [(b10, .map (mrows idVal (mset ((F.take (i + 1)).map U.id)))), (b9, .map (mrows idVal (mset ((F.take i).flatMap (fun y => marks5 y.k5) ++ ((x.head ++ x.words).take j).map Wd.by3)))), (b3, .map (mrows pkVal (mset (l.map rf))))]) () trivial (by simp only [List.take_zero, List.map_nil, List.append_nil]; exact Weak.rfl' _ _) (by rw [List.length_append]; omega) (fun j w rw c hokw hy hww => ?_) (fun c hokw hnw => ?_)
          · have hW : x.head ++ x.words = (x.head ++ x.words).take (j + 1) ++ (x.head ++ x.words).drop (j + 1) := (List.take_append_drop _ _).symm
            have hnj : ((F.take i).flatMap (fun y => marks5 y.k5) ++ (((x.head ++ x.words).take j).map Wd.by3 ++ [w.by3])).Nodup := by
              rw [hW, List.map_append, hy.take, List.map_append, ← List.append_assoc] at hnd
              exact (List.nodup_append.1 hnd).1
            rw [← List.append_assoc] at hnj
            have hmw : w.by3 ∉ (F.take i).flatMap (fun y => marks5 y.k5) ++ ((x.head ++ x.words).take j).map Wd.by3 := fun h => (List.nodup_append.1 hnj).2.2 _ h w.by3 (by simp) rfl
            have q1 : decide (w.by3 ∈ (F.take i).flatMap (fun y => marks5 y.k5) ++ ((x.head ++ x.words).take j).map Wd.by3) = false := decide_eq_false hmw
            have q2 : decide ((w.act, w.item) ∈ l.map rf) = true := decide_eq_true (hS1 w hy.mem)
            have q3 : mputs w.by3 (.bool true) (mset ((F.take i).flatMap (fun y => marks5 y.k5) ++ ((x.head ++ x.words).take j).map Wd.by3)) = mset ((F.take i).flatMap (fun y => marks5 y.k5) ++ ((x.head ++ x.words).take (j + 1)).map Wd.by3) := by rw [mset_put, if_neg hmw, hy.take]; simp
            obtain ⟨A, hA'⟩ : ∃ A, (F.take i).flatMap (fun y => marks5 y.k5) ++ ((x.head ++ x.words).take j).map Wd.by3 = A := ⟨_, rfl⟩
            rw [hA'] at q1 q3 ⊢
            (repeat' (first | (with_reducible (refine split_case (fun h => ?_) (fun h => ?_)) <;> (try simp only [Da, Db, Dc, Dw, De, Df, Dg, Dh] at h)) | simp -dsimp -implicitDefEqProofs only [EVz, seval, ↓reduceIte, reduceCtorEq, EV6, EV7, mset_get, q1, q2, q3, hy.yes, hy.le0, hy.lt', hy.get, hy.row, hww, k9, k9', k10, k10', Wd.cs, hne] | (with_reducible intro blk hblk; (try (have hnx := hblk; simp only [EVK] at hnx; (have hne := And.intro hnx hne)))) | (refine RAW_lookup mapK_mk (l := mset A) (k := w.by3) (z := .bool false) (zv := .bool false) rfl (rep_by w) (eT := 4) (by kernel_rfl) (by simp [Store.get, *]) (by kernel_rfl) (fun _ _ => by simp only [Rep]) ?_) | (refine RAW_lookup mapK_pk (l := mset (l.map rf)) (k := (w.act, w.item)) (z := .bool false) (zv := .bool false) rfl (rep_pk _ _) (eT := 4) (by kernel_rfl) (by simp [Store.get, *]) (by kernel_rfl) (fun _ _ => by simp only [Rep]) ?_) | (refine RAW_mapUpdate mapK_mk (l := mset A) (k := w.by3) (yv := .bool true) rfl (rep_by w) rfl (eT := 4) (by kernel_rfl) (by simp [Store.get, *]) ?_) | fail))
            all_goals first
              | exact absurd (hS1 w hy.mem) (by assumption)
              | exact LK_next hy () trivial (Weak.sub (SubN.tail (SubN.refl _) _))
          · have e8 : (F.take i).flatMap (fun y => marks5 y.k5) ++ ((x.head ++ x.words).take (x.head ++ x.words).length).map Wd.by3 = (F.take (i + 1)).flatMap (fun y => marks5 y.k5) := by
              rw [List.take_length, hx.take, List.flatMap_append, ← hM]; simp
            rw [e8]
            (repeat' (simp -dsimp -implicitDefEqProofs only [EVz, seval, ↓reduceIte, reduceCtorEq, EV6, EV7, hnw, hw, hne]))
            all_goals exact LK_next hx () trivial (Weak.rfl' _ _)
      · (repeat' ((exfalso; omega)))
        exact hR _ _ (.inl (.inl rfl))
end
end Go.Av
