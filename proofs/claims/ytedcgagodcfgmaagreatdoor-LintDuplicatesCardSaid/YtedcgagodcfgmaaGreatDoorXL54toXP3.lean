/-
  LINT, 54: the findings for an act.
-/
import Derived.Test.YtedcgagodcfgmaaGreatDoorXP4toXL43
import Derived.Test.YtedcgagodcfgmaaGreatDoorXL29
import Derived.Test.YtedcgagodcfgmaaGreatDoorXL25toXL50
import Derived.Test.YtedcgagodcfgmaaGreatDoorXP1toXL28
section
namespace Go.Av
open Go Go.RowKit Go.Proofs
set_option linter.unusedSimpArgs false
set_option linter.unusedVariables false

theorem fnds_len (a : Ac) (i : Nat) (x : Itm) : (a.fnds i x).length ≤ 12 := by
  unfold Ac.fnds
  have h1 := finds_len x
  have h2 := optF_len (dupB a i x) (fw 5 tDup)
  have h3 := ownF_len a x
  simp only [List.length_append]
  omega
theorem chkFrom_len (a : Ac) : ∀ (l : List Itm) (i : Nat), (a.chkFrom i l).length ≤ 12 * l.length
  | [], i => by simp [Ac.chkFrom]
  | x :: r, i => by
    have h1 := fnds_len a i x
    have h2 := chkFrom_len a r (i + 1)
    simp only [Ac.chkFrom, List.length_append, List.length_map, List.length_cons]
    omega
theorem put_cs (n : Int) (f : Fnd) : (f.put n).cs = [.int .i64 n, .int .i64 f.id.act, .int .i64 f.id.item, .int .i64 f.id.n, .int .i64 f.why, .str f.text] := rfl
theorem tok_apart {d : Option Nat} {e : TypeId} {m : Nat} {τ : Store} (h : Store.keys (tokS d e m ++ τ) |>.Nodup) : ∀ q, d = some q → q ∉ τ.keys := by
  rintro q rfl hm
  rw [keys_append] at h
  exact (List.nodup_append.1 h).2.2 q (by simp [tokS, Store.keys]) q hm rfl
theorem tok_new {g : Option Nat} {κ : Store} {b : Nat} {y : AObj} {e : TypeId} {m : Nat} (hg : ∀ q, g = some q → q ∉ κ.keys) (hb : b ∉ Store.keys (κ ++ tokS g e m)) : ∀ q, g = some q → q ∉ Store.keys ((b, y) :: κ) := by
  rintro q rfl hm
  rcases List.mem_cons.1 hm with h | h
  · subst h
    exact hb (by rw [keys_append]; exact List.mem_append.2 (.inr (by simp [tokS, Store.keys])))
  · exact hg q rfl h
/-! ### stops and joins -/
theorem W_seq_join2 {G : Glob} {P : Program} {a b : SCode} {Q : Exit → Env → Store → Prop} {tQ : Tag Q} {env : Env} {σ : Store} {ι : Type} (ok : ι → Prop) (st : ι → Env) (ext : ι → Env) (ss : ι → Store)
    (he : ∀ j, ok j → W G P b Q (st j) (ss j) ⟨⟩ → W G P b Q (st j ++ ext j) (ss j) ⟨⟩) (hb : ∀ j, ok j → W G P b Q (st j) (ss j) ⟨⟩)
    (ha : ∀ K : Env → Store → Prop, (∀ j, ok j → K (st j) (ss j)) → (∀ j, ok j → K (st j ++ ext j) (ss j)) → W G P a (NR K Q ⟨⟩ ⟨⟩) env σ ⟨⟩) : W G P (.seq a b) Q env σ tQ :=
  ha (fun env σ => W G P b Q env σ ⟨⟩) hb fun j hj => he j hj (hb j hj)
theorem W_assoc {G : Glob} {P : Program} {a b c : SCode} {Q : Exit → Env → Store → Prop} {tQ : Tag Q} {env : Env} {σ : Store} : W G P (.seq a (.seq b c)) Q env σ tQ = W G P (.seq (.seq a b) c) Q env σ ⟨⟩ := by
  simp only [W_seq]
  refine congrArg (fun q => W G P a q env σ ⟨⟩) ?_
  funext e env σ
  cases e <;> rfl
theorem W_stop1 {G : Glob} {P : Program} {R C A B X r r2 : SCode} {i : Nat} {Q : Exit → Env → Store → Prop} {tQ : Tag Q} {env : Env} {σ : Store}
    (h : ∀ Y, Y = X → W G P (.seq R (.seq C (.seq (.seq (.block i (.seq A (.seq B Y))) r) r2))) Q env σ ⟨⟩) : W G P (.seq R (.seq C (.seq (.seq (.block i (.seq A (.seq B X))) r) r2))) Q env σ tQ := h X rfl

section
variable (G : Glob)
theorem f41 (b : Nat) (x y : Itm) (hf : y.fit) : FnSpec G Tryz.prog 41 [.agg y.cs, .sc (.pointer (some ⟨b, 0, none⟩))] [(b, .cells 34 x.cs)] fun r σ' => r = .bool (decide (y = x)) ∧ σ' = [(b, .cells 34 x.cs)] := by
  have h1 := f42 G y hf x
  refine FnSpec.wk c41 fun R hR => ?_
  unfold s41 r41
  (repeat' (first | (with_reducible (first | refine split_case (fun h => ?_) (fun h => ?_) | refine gd_case (fun h => ?_) (fun h => ?_) | refine pick_case (fun h => ?_) (fun h => ?_)) <;> (try simp only [Da, Db, Dc, Dd, De, Df, Dg, Dh] at h)) | (with_reducible refine And.intro (by omega) ?_) | (with_reducible refine CALL_pure (h1) ?_) | simp -dsimp -implicitDefEqProofs only [EV1, EV2, EV3, EV4, EV5, seval, ↓reduceIte, reduceCtorEq, eq_self, Option.map_some, decide_true, decide_false, EV6, EV7] | (with_reducible intro blk hblk; (try (have hnx := hblk; simp only [EVK] at hnx; first | (have hne := And.intro hnx hne) | (have hne := hnx)))) | (with_reducible refine both_case ?_ ?_) | (with_reducible refine same_case ?_) | (exfalso; omega)))
  exact hR _ _ (AVle.rfl' _) (SubN.refl _)

variable (hG : GOk G)
include hG
set_option maxHeartbeats 4000000 in
set_option maxRecDepth 100000 in
theorem f15 (hG2 : GOk2 G) (a : Ac) (ht : a.title.length < 4294967281) (he : a.start.event.length < 1000000000000000000) (hl : a.items.length < 9000000000000000000) (hs : ∀ x ∈ a.items, x.Shorts) : Pure G Tryz.prog 15 [.agg a.cs] (.lst 6 (a.chk.map Fnd.cs)) := by
  have hV := f39 G hG hG2 a ht he hl hs
  refine Pure.w c15 fun R hR => ?_
  unfold s15 r15
  unfold Ac.chk at hR
  unfold Ac.cs at hV ⊢
  cases hm : a.may with
  | false =>
    rw [hm] at hV hR
    (repeat' (first | (with_reducible (first | refine split_case (fun h => ?_) (fun h => ?_) | refine gd_case (fun h => ?_) (fun h => ?_) | refine pick_case (fun h => ?_) (fun h => ?_)) <;> (try simp only [Da, Db, Dc, Dd, De, Df, Dg, Dh] at h)) | (with_reducible refine And.intro (by omega) ?_) | (with_reducible refine CALL_pure (hV) ?_) | simp -dsimp -implicitDefEqProofs only [EV1, EV2, EV3, EV4, EV5, seval, ↓reduceIte, reduceCtorEq, eq_self, Option.map_some, decide_true, decide_false, EV6, EV7] | (with_reducible intro blk hblk; (try (have hnx := hblk; simp only [EVK] at hnx; first | (have hne := And.intro hnx hne) | (have hne := hnx)))) | (with_reducible refine both_case ?_ ?_) | (with_reducible refine same_case ?_) | (refine ⟨[actFnd0.cs], rfl, (by simp [actFnd0, Fnd.cs]), rfl, ?_⟩) | (exfalso; omega)))
    exact hR _ _ (Or.inl (Or.inr ⟨rfl, rfl⟩))
  | true =>
    rw [hm] at hV
    rw [hm, if_pos rfl] at hR
    have hlen : a.items.length ≤ 32 := by
      unfold Ac.may at hm
      simp only [Bool.and_eq_true, decide_eq_true_eq] at hm
      exact hm.1.2
    (repeat' (first | (with_reducible (first | refine split_case (fun h => ?_) (fun h => ?_) | refine gd_case (fun h => ?_) (fun h => ?_) | refine pick_case (fun h => ?_) (fun h => ?_)) <;> (try simp only [Da, Db, Dc, Dd, De, Df, Dg, Dh] at h)) | (with_reducible refine And.intro (by omega) ?_) | (with_reducible refine CALL_pure (hV) ?_) | simp -dsimp -implicitDefEqProofs only [EV1, EV2, EV3, EV4, EV5, seval, ↓reduceIte, reduceCtorEq, eq_self, Option.map_some, decide_true, decide_false, EV6, EV7] | (with_reducible intro blk hblk; (try (have hnx := hblk; simp only [EVK] at hnx; first | (have hne := And.intro hnx hne) | (have hne := hnx)))) | (with_reducible refine both_case ?_ ?_) | (with_reducible refine same_case ?_) | (exfalso; omega)))
    refine W_list (ι := Option Nat × List Fnd) a.items (fun i r c => a.chkFrom 0 a.items = c.2 ++ a.chkFrom i r) (fun i c => [(1, .ref [.int .i64 a.number, .str a.title, .int .i64 a.day, .int .i64 a.start.kind, .int .i64 a.start.day, .str a.start.event, .lst 25 (a.items.map Itm.cs)]), (3, .own c.1 46 6 (c.2.map Fnd.cs)), (17, .lst 25 (a.items.map Itm.cs)), (18, .int .i64 a.items.length), (19, .int .i64 i)])
      (fun i c => tokS c.1 46 (c.2.length * 6)) (none, []) rfl (Weak.of (by simp [EnvLe, Env.get, AVle, AVle1]) (SubN.refl _)) (by omega) (fun i x r c hok hx hw => ?_) (fun c hok hn => ?_)
    · have hI := f12o G hG x (hs x hx.mem)
      refine W_stop1 fun Y hY => ?_
      (try simp -dsimp -implicitDefEqProofs only [EV1, EV2, EV3, EV4, EV5, seval, ↓reduceIte, reduceCtorEq, eq_self, Option.map_some, decide_true, decide_false, EV6, EV7, hx.yes, hx.le0, hx.lt', hx.row, hw, hx.get])
      intro b5 hb5
      (try simp -dsimp -implicitDefEqProofs only [EV1, EV2, EV3, EV4, EV5, seval, ↓reduceIte, reduceCtorEq, eq_self, Option.map_some, decide_true, decide_false, EV6, EV7, hx.yes, hx.le0, hx.lt', hx.row, hw, hx.get])
      refine CALL_specN [] _ hI.v (AVleA.rfl' _) (SubN.refl _) ?_
      rintro _ _ ⟨d, rfl, rfl⟩ hnd
      (try simp -dsimp -implicitDefEqProofs only [EV1, EV2, EV3, EV4, EV5, seval, ↓reduceIte, reduceCtorEq, eq_self, Option.map_some, decide_true, decide_false, EV6, EV7, hx.yes, hx.le0, hx.lt', hx.row, hw, hx.get])
      subst hY
      simp only [List.length_map] at hnd
      have hdk : ∀ q, d = some q → q ∉ Store.keys ((b5, AObj.cells 34 x.cs) :: tokS c.1 46 (c.2.length * 6)) := fun q hq hm => tok_apart hnd q hq hm
      have hE := f40k G [(b5, .cells 34 x.cs)] (.func (.func 41) #[] #[.pointer (some ⟨b5, 0, none⟩)]) (fun y => decide (y = x)) (a.items.take i) (by rw [List.length_take]; omega)
        (fun y hy => ⟨_, _, _, rfl, f41 G b5 x y (((Itm.Shorts_eq y).1 (hs y (List.mem_of_mem_take hy))).1.fit)⟩)
      have hdup : (a.items.take i).any (fun y => decide (y = x)) = dupB a i x := rfl
      rw [hdup, List.map_take] at hE
      have hO := f43 G a x (by omega)
      unfold Ac.cs at hO
      obtain ⟨F1, hF1⟩ : ∃ F, F = x.finds ++ optF (dupB a i x) (fw 5 tDup) := ⟨_, rfl⟩
      have hfl := finds_len x
      have hF2 : a.fnds i x = F1 ++ optF (ownP a x).2 (ownP a x).1 := by rw [hF1, ← ownP_F]; unfold Ac.fnds; rw [List.append_assoc]
      have hF1l : F1.length ≤ 11 := by rw [hF1, List.length_append]; have := optF_len (dupB a i x) (fw 5 tDup); omega
      have hfn := fnds_len a i x
      have hcl : c.2.length ≤ 384 := by
        have h1 := congrArg List.length hok
        have h2 := chkFrom_len a a.items 0
        rw [List.length_append] at h1
        omega
      rcases hp : ownP a x with ⟨f, o⟩
      rw [hp] at hO hF2
      simp only at hO hF2
      rw [W_assoc]
      refine W_seq_join2 (ι := Nat × Option Nat) (fun j => True)
        (fun j => [(1, .ref [.int .i64 a.number, .str a.title, .int .i64 a.day, .int .i64 a.start.kind, .int .i64 a.start.day, .str a.start.event, .lst 25 (a.items.map Itm.cs)]), (3, .own c.1 46 6 (c.2.map Fnd.cs)), (17, .lst 25 (a.items.map Itm.cs)), (18, .int .i64 a.items.length), (19, .int .i64 i), (4, .int .i64 i), (6, .own j.2 46 6 ((a.fnds i x).map Fnd.cs))])
        (fun j => [(7, .sc (.pointer (some ⟨j.1, 0, none⟩))), (42, .bool false)])
        (fun j => (j.1, AObj.cells 46 f.cs) :: (b5, AObj.cells 34 x.cs) :: (tokS c.1 46 (c.2.length * 6) ++ tokS j.2 46 ((a.fnds i x).length * 6))) ?_ ?_ ?_
      · intro j _ h
        (try simp -dsimp -implicitDefEqProofs only [EV1, EV2, EV3, EV4, EV5, seval, ↓reduceIte, reduceCtorEq, eq_self, Option.map_some, decide_true, decide_false, EV6, EV7, hw, List.cons_append, List.nil_append])
        (try simp -dsimp -implicitDefEqProofs only [EV1, EV2, EV3, EV4, EV5, seval, ↓reduceIte, reduceCtorEq, eq_self, Option.map_some, decide_true, decide_false, EV6, EV7, hw] at h)
        exact h
      · intro j _
        (try simp -dsimp -implicitDefEqProofs only [EV1, EV2, EV3, EV4, EV5, seval, ↓reduceIte, reduceCtorEq, eq_self, Option.map_some, decide_true, decide_false, EV6, EV7, hw])
        refine W_list (ι := Option Nat × List Fnd) (a.fnds i x) (fun k r e => c.2 ++ (a.fnds i x).map (Fnd.put i) = e.2 ++ r.map (Fnd.put i)) (fun k e => [(1, .ref [.int .i64 a.number, .str a.title, .int .i64 a.day, .int .i64 a.start.kind, .int .i64 a.start.day, .str a.start.event, .lst 25 (a.items.map Itm.cs)]), (3, .own e.1 46 6 (e.2.map Fnd.cs)), (17, .lst 25 (a.items.map Itm.cs)), (18, .int .i64 a.items.length), (19, .int .i64 i), (4, .int .i64 i), (47, .lst 6 ((a.fnds i x).map Fnd.cs)), (48, .int .i64 (a.fnds i x).length), (49, .int .i64 k)])
          (fun k e => tokS e.1 46 (e.2.length * 6)) (c.1, c.2) rfl (Weak.of (by simp [EnvLe, Env.get, AVle, AVle1]) ((SubN.appL.tail _).tail _)) (by omega) (fun k y r2 e hok2 hy hwk => ?_) (fun e hok2 hnk => ?_)
        · have h12 := congrArg List.length hok2
          simp only [List.length_append, List.length_map, List.length_cons] at h12
          (try simp -dsimp -implicitDefEqProofs only [EV1, EV2, EV3, EV4, EV5, seval, ↓reduceIte, reduceCtorEq, eq_self, Option.map_some, decide_true, decide_false, EV6, EV7, hy.yes, hy.le0, hy.lt', hy.row, hwk, hy.get])
          intro b10 hb10
          (try simp -dsimp -implicitDefEqProofs only [EV1, EV2, EV3, EV4, EV5, seval, ↓reduceIte, reduceCtorEq, eq_self, Option.map_some, decide_true, decide_false, EV6, EV7, hy.yes, hy.le0, hy.lt', hy.row, hwk, hy.get])
          intro blk hblk
          refine app_row (n := e.2.length) (m' := (e.2.length + 1) * 6) (tok_get_cons (by assumption)) (by simp) rfl rfl rfl (by assumption) (by omega) (fun gn => ?_)
          refine LK_next hy (gn, e.2 ++ [y.put i]) ?_ ?_
          · rw [hok2]; simp
          · simp only [List.map_append, List.map_cons, List.map_nil, put_cs, List.length_append, List.length_cons, List.length_nil, Nat.zero_add]; exact Weak.rfl' _ _
        · (try simp -dsimp -implicitDefEqProofs only [EV1, EV2, EV3, EV4, EV5, seval, ↓reduceIte, reduceCtorEq, eq_self, Option.map_some, decide_true, decide_false, EV6, EV7, hnk, hw])
          refine LK_next hx (e.1, e.2) ?_ (Weak.rfl' _ _)
          rw [hok, Ac.chkFrom, ← List.append_assoc, hok2]
          simp
      · intro K hK hK2
        (try simp -dsimp -implicitDefEqProofs only [EV1, EV2, EV3, EV4, EV5, seval, ↓reduceIte, reduceCtorEq, eq_self, Option.map_some, decide_true, decide_false, EV6, EV7, hw])
        refine ⟨by omega, by have := hx.lt; omega, ?_⟩
        refine CALL_spec [(b5, .cells 34 x.cs)] (tokS c.1 46 (c.2.length * 6) ++ tokS d 46 (x.finds.length * 6)) hE.v (AVleA.rfl' _) (SubN.perm (List.perm_append_comm (l₁ := (b5, AObj.cells 34 x.cs) :: tokS c.1 46 (c.2.length * 6)) (l₂ := tokS d 46 (x.finds.length * 6)))) ?_
        rintro _ _ ⟨rfl, rfl⟩
        cases hdb : dupB a i x with
        | false =>
          rw [hdb] at hF1
          simp only [optF, Bool.false_eq_true, if_false, List.append_nil] at hF1
          have hrow : x.finds = F1 := hF1.symm
          (try simp -dsimp -implicitDefEqProofs only [EV1, EV2, EV3, EV4, EV5, seval, ↓reduceIte, reduceCtorEq, eq_self, Option.map_some, decide_true, decide_false, EV6, EV7, hw, hrow])
          refine CALL_pure hO ?_
          (try simp -dsimp -implicitDefEqProofs only [EV1, EV2, EV3, EV4, EV5, seval, ↓reduceIte, reduceCtorEq, eq_self, Option.map_some, decide_true, decide_false, EV6, EV7, hw])
          intro b7 hb7
          (try simp -dsimp -implicitDefEqProofs only [EV1, EV2, EV3, EV4, EV5, seval, ↓reduceIte, reduceCtorEq, eq_self, Option.map_some, decide_true, decide_false, EV6, EV7, hw])
          cases o with
          | false =>
            have e : a.fnds i x = F1 := by rw [hF2]; simp [optF]
            (try simp -dsimp -implicitDefEqProofs only [EV1, EV2, EV3, EV4, EV5, seval, ↓reduceIte, reduceCtorEq, eq_self, Option.map_some, decide_true, decide_false, EV6, EV7, hw])
            have h := hK2 (b7, d) trivial
            rw [e] at h
            simpa only [fnd_cs, List.cons_append, List.nil_append] using h
          | true =>
            have e : a.fnds i x = F1 ++ [f] := by rw [hF2]; simp [optF]
            (try simp -dsimp -implicitDefEqProofs only [EV1, EV2, EV3, EV4, EV5, seval, ↓reduceIte, reduceCtorEq, eq_self, Option.map_some, decide_true, decide_false, EV6, EV7, hw])
            intro blk2 hblk2
            (try simp -dsimp -implicitDefEqProofs only [EV1, EV2, EV3, EV4, EV5, seval, ↓reduceIte, reduceCtorEq, eq_self, Option.map_some, decide_true, decide_false, EV6, EV7, hw])
            refine app_rowK ((b7, AObj.cells 46 [.int .i64 f.at_, .int .i64 f.id.act, .int .i64 f.id.item, .int .i64 f.id.n, .int .i64 f.why, .str f.text]) :: (b5, AObj.cells 34 x.cs) :: tokS c.1 46 (c.2.length * 6)) (n := F1.length) (m' := (F1.length + 1) * 6) rfl (tok_new hdk hb7) (by simp) rfl rfl rfl hblk2 (by omega) (fun g2 hg2 => ?_)
            (try simp -dsimp -implicitDefEqProofs only [EV1, EV2, EV3, EV4, EV5, seval, ↓reduceIte, reduceCtorEq, eq_self, Option.map_some, decide_true, decide_false, EV6, EV7, hw])
            have h := hK (b7, g2) trivial
            rw [e] at h
            simpa only [List.map_append, List.map_cons, List.map_nil, fnd_cs, List.length_append, List.length_cons, List.length_nil, Nat.zero_add, List.cons_append] using h

        | true =>
          rw [hdb] at hF1
          simp only [optF, if_true] at hF1
          have hrow : x.finds.map Fnd.cs ++ [[AV.int .i64 0, .int .i64 0, .int .i64 0, .int .i64 0, .int .i64 5, .str [100, 117, 112, 108, 105, 99, 97, 116, 101]]] = F1.map Fnd.cs := by rw [hF1]; simp [fw_cs, tDup]
          (try simp -dsimp -implicitDefEqProofs only [EV1, EV2, EV3, EV4, EV5, seval, ↓reduceIte, reduceCtorEq, eq_self, Option.map_some, decide_true, decide_false, EV6, EV7, hw])
          intro blk hblk
          (try simp -dsimp -implicitDefEqProofs only [EV1, EV2, EV3, EV4, EV5, seval, ↓reduceIte, reduceCtorEq, eq_self, Option.map_some, decide_true, decide_false, EV6, EV7, hw])
          refine app_rowK ((b5, AObj.cells 34 x.cs) :: tokS c.1 46 (c.2.length * 6)) (n := x.finds.length) (m' := F1.length * 6) rfl hdk (by simp) rfl (by rw [hF1]; simp) rfl hblk (by omega) (fun g' hg' => ?_)
          (try simp -dsimp -implicitDefEqProofs only [EV1, EV2, EV3, EV4, EV5, seval, ↓reduceIte, reduceCtorEq, eq_self, Option.map_some, decide_true, decide_false, EV6, EV7, hw, hrow])
          refine CALL_pure hO ?_
          (try simp -dsimp -implicitDefEqProofs only [EV1, EV2, EV3, EV4, EV5, seval, ↓reduceIte, reduceCtorEq, eq_self, Option.map_some, decide_true, decide_false, EV6, EV7, hw])
          intro b7 hb7
          (try simp -dsimp -implicitDefEqProofs only [EV1, EV2, EV3, EV4, EV5, seval, ↓reduceIte, reduceCtorEq, eq_self, Option.map_some, decide_true, decide_false, EV6, EV7, hw])
          cases o with
          | false =>
            have e : a.fnds i x = F1 := by rw [hF2]; simp [optF]
            (try simp -dsimp -implicitDefEqProofs only [EV1, EV2, EV3, EV4, EV5, seval, ↓reduceIte, reduceCtorEq, eq_self, Option.map_some, decide_true, decide_false, EV6, EV7, hw])
            have h := hK2 (b7, g') trivial
            rw [e] at h
            simpa only [fnd_cs, List.cons_append, List.nil_append] using h
          | true =>
            have e : a.fnds i x = F1 ++ [f] := by rw [hF2]; simp [optF]
            (try simp -dsimp -implicitDefEqProofs only [EV1, EV2, EV3, EV4, EV5, seval, ↓reduceIte, reduceCtorEq, eq_self, Option.map_some, decide_true, decide_false, EV6, EV7, hw])
            intro blk2 hblk2
            (try simp -dsimp -implicitDefEqProofs only [EV1, EV2, EV3, EV4, EV5, seval, ↓reduceIte, reduceCtorEq, eq_self, Option.map_some, decide_true, decide_false, EV6, EV7, hw])
            refine app_rowK ((b7, AObj.cells 46 [.int .i64 f.at_, .int .i64 f.id.act, .int .i64 f.id.item, .int .i64 f.id.n, .int .i64 f.why, .str f.text]) :: (b5, AObj.cells 34 x.cs) :: tokS c.1 46 (c.2.length * 6)) (n := F1.length) (m' := (F1.length + 1) * 6) rfl (tok_new hg' hb7) (by simp) rfl rfl rfl hblk2 (by omega) (fun g2 hg2 => ?_)
            (try simp -dsimp -implicitDefEqProofs only [EV1, EV2, EV3, EV4, EV5, seval, ↓reduceIte, reduceCtorEq, eq_self, Option.map_some, decide_true, decide_false, EV6, EV7, hw])
            have h := hK (b7, g2) trivial
            rw [e] at h
            simpa only [List.map_append, List.map_cons, List.map_nil, fnd_cs, List.length_append, List.length_cons, List.length_nil, Nat.zero_add, List.cons_append] using h

    · (repeat' (first | (with_reducible (first | refine split_case (fun h => ?_) (fun h => ?_) | refine gd_case (fun h => ?_) (fun h => ?_) | refine pick_case (fun h => ?_) (fun h => ?_)) <;> (try simp only [Da, Db, Dc, Dd, De, Df, Dg, Dh] at h)) | (with_reducible refine And.intro (by omega) ?_)  | simp -dsimp -implicitDefEqProofs only [EV1, EV2, EV3, EV4, EV5, seval, ↓reduceIte, reduceCtorEq, eq_self, Option.map_some, decide_true, decide_false, EV6, EV7, hn] | (with_reducible intro blk hblk; (try (have hnx := hblk; simp only [EVK] at hnx; first | (have hne := And.intro hnx hne) | (have hne := hnx)))) | (with_reducible refine both_case ?_ ?_) | (with_reducible refine same_case ?_) | (exfalso; omega)))
      exact hR _ _ (Or.inl (Or.inr ⟨rfl, by rw [hok]; simp [Ac.chkFrom]⟩))
end
end Go.Av
end

section
namespace Go.Av
open Go Go.RowKit Go.Proofs
set_option linter.unusedSimpArgs false
set_option linter.unusedVariables false

section
variable (G : Glob)
end
end Go.Av
end

section
namespace Go.Av
open Go Go.RowKit Go.Proofs
set_option linter.unusedSimpArgs false
set_option linter.unusedVariables false

theorem shortW_ok {l : List Wd} (h : shortW l = true) : l.length < 1000000 ∧ ∀ w ∈ l, w.text.length < 1000000 := by
  unfold shortW at h
  simp only [Bool.and_eq_true, List.all_eq_true, decide_eq_true_eq] at h
  exact ⟨by omega, fun w hw => by have := h.1 w hw; omega⟩
theorem shortss_all : ∀ {us : List U}, U.shortss us = true → ∀ k ∈ us, k.shorts = true
  | [], _, k, hk => by cases hk
  | u :: us, h, k, hk => by
    rw [U.shortss, Bool.and_eq_true] at h
    rcases List.mem_cons.1 hk with rfl | hk
    · exact h.1
    · exact shortss_all h.2 k hk
theorem shorts_flat : ∀ u : U, u.shorts = true → ∀ x ∈ u.flat, x.label.length < 1000000 ∧ x.head.length < 1000000 ∧ x.words.length < 1000000 ∧ (∀ w ∈ x.head, w.text.length < 1000000) ∧ (∀ w ∈ x.words, w.text.length < 1000000) := by
  refine U.ind fun u ih h x hx => ?_
  rw [U.shorts_eq] at h
  simp only [Bool.and_eq_true, decide_eq_true_eq] at h
  obtain ⟨h1, h2, h3, h4⟩ := h
  rw [U.flat_eq] at hx
  rcases List.mem_cons.1 hx with rfl | hx
  · have a := shortW_ok h2
    have b := shortW_ok h3
    exact ⟨by omega, a.1, b.1, a.2, b.2⟩
  · obtain ⟨k, hk, hx⟩ := flats_in hx
    exact ih k hk (shortss_all h4 k hk) x hx
theorem unit_short {u : U} (hf : u.fit) {m : Int} (hm : 0 ≤ m) (hm2 : m ≤ 100000) (h : u.few m = true) : u.Short := by
  unfold U.few at h
  simp only [Bool.and_eq_true, decide_eq_true_eq] at h
  obtain ⟨h1, h2⟩ := h
  have h3 := (U.size_ok u 0 m hm).2.2 h1
  exact ⟨⟨hf, by omega⟩, shorts_flat u h2⟩
theorem steps_ok {l : List Stp} (h : steps100 l = true) : ∀ s ∈ l, s.label.length ≤ 100 := by
  unfold steps100 at h
  simp only [List.all_eq_true, decide_eq_true_eq] at h
  intro s hs
  have := h s hs
  omega
theorem fews_all : ∀ {l : List Itm}, Itm.fews l = true → ∀ y ∈ l, y.few = true
  | [], _, y, hy => by cases hy
  | x :: l, h, y, hy => by
    rw [Itm.fews_cons, Bool.and_eq_true, Bool.and_eq_true] at h
    rcases List.mem_cons.1 hy with rfl | hy
    · exact h.1.2
    · exact fews_all h.2 y hy
theorem few_shorts : ∀ x : Itm, x.fit → x.few = true → x.Shorts := by
  refine Itm.ind fun x ih hf h => ?_
  rw [Itm.few_eq] at h
  unfold Itm.few0 at h
  simp only [Bool.and_eq_true, decide_eq_true_eq] at h
  obtain ⟨⟨a1, a2, a3, a4, a5, a6, a7, a8, a9, a10⟩, b1, b2, b3, b4, b5⟩ := h
  obtain ⟨h1, h2, h3, h4, h5, h6, h7⟩ := (Itm.fit_eq x).1 hf
  refine (Itm.Shorts_eq x).2 ⟨⟨hf, unit_short h3 (by omega) (by omega) a10, by omega, by omega, fun s hs => by have := steps_ok b3 s hs; omega, fun s hs => by have := steps_ok b4 s hs; omega, by omega, by omega, by omega, by omega, by omega, by omega⟩, fun y hy => ih y hy (h7 y hy) (fews_all b5 y hy)⟩
end Go.Av
end
