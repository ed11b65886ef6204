/-
  LINT, 55: the findings for an act, as the document says it.
-/
import Derived.Test.YtedcgagodcfgmaaGreatDoorXL54
import Derived.Test.YtedcgagodcfgmaaGreatDoorXL29
namespace Go.Av
open Go Go.RowKit Go.Proofs
set_option linter.unusedSimpArgs false
set_option linter.unusedVariables false

theorem W_stop2 {G : Glob} {P : Program} {R C A B X r r2 : SCode} {i : Nat} {Q : Exit → Env → Store → Prop} {tQ : Tag Q} {env : Env} {σ : Store}
    (h : ∀ Y, Y = X → W G P (.seq (.seq R C) (.seq (.seq (.block i (.seq A (.seq B Y))) r) r2)) Q env σ ⟨⟩) : W G P (.seq (.seq R C) (.seq (.seq (.block i (.seq A (.seq B X))) r) r2)) Q env σ tQ := h X rfl
theorem fnd_flat (l : List Fnd) : ∀ r ∈ l.map Fnd.cs, ∀ x ∈ r, x.flat = true := by
  intro r hr x hx
  obtain ⟨f, _, rfl⟩ := List.mem_map.1 hr
  rw [fnd_cs] at hx
  simp only [List.mem_cons, List.not_mem_nil, or_false] at hx
  rcases hx with rfl | rfl | rfl | rfl | rfl | rfl <;> rfl
theorem fnd_six (l : List Fnd) : ∀ r ∈ l.map Fnd.cs, r.length = 6 := by
  intro r hr
  obtain ⟨f, _, rfl⟩ := List.mem_map.1 hr
  rfl

theorem W_seq_alt {G : Glob} {P : Program} {a b : SCode} {Q : Exit → Env → Store → Prop} {tQ : Tag Q} {env : Env} {σ : Store} {ι κ : Type} (ok : ι → Prop) (st : ι → Env) (alt : κ → ι → Env) (ss : ι → Store)
    (he : ∀ k j, ok j → W G P b Q (st j) (ss j) ⟨⟩ → W G P b Q (alt k j) (ss j) ⟨⟩) (hb : ∀ j, ok j → W G P b Q (st j) (ss j) ⟨⟩)
    (ha : ∀ K : Env → Store → Prop, (∀ j, ok j → K (st j) (ss j)) → (∀ k j, ok j → K (alt k j) (ss j)) → W G P a (NR K Q ⟨⟩ ⟨⟩) env σ ⟨⟩) : W G P (.seq a b) Q env σ tQ :=
  ha (fun env σ => W G P b Q env σ ⟨⟩) hb fun k j hj => he k j hj (hb j hj)
/-- append to cells that a call handed back. -/
theorem RAW_appC {G : Glob} {P : Program} {σ : Store} {env : Env} {K : AV → Store → Prop} {tK : Tag K} {t tx e e' : TypeId} {sz bytes : Nat} {x y : Operand} {rows ys : List (List AV)} {d : KC} {new : List (List AV)} {n : Nat} (κ : Store)
    (hu : P.underlying t = some (.slice e)) (hk : P.underlying tx = some (.slice e')) (hi : (P.info? e).map (fun i => (i.size, i.bytes)) = some (sz, bytes)) (hz : (zeroT P e).map List.length = some sz) (hpos : sz ≠ 0) (hb0 : bytes ≠ 0)
    (hσ : SubN (cSt e d rows ++ κ) σ) (hok : cOk sz d rows) (hxv : (SOpd.of x).eval G env = cAV d rows.length) (hys : srcX sz ((SOpd.of y).eval G env) fun l => l = ys) (hne : ys ≠ []) (hnew : rows ++ ys = new) (hlen : new.length = n) (hbytes : (rows.length + ys.length) * bytes ≤ 140737488355328)
    (hK : ∀ d', cOk sz d' new → (cSt e d' new ++ κ : Store).keys.Nodup → K (cAV d' n) (cSt e d' new ++ κ)) : RAW G P (.call (.mk (.builtin .append) #[x, y] #[t, tx])) env σ K tK := by
  subst hnew hlen
  refine RAW_frameN (cSt e d rows) κ hσ ?_
  refine RAW_appendZ hu hk hi hz hpos hb0 hxv (cWS hok) hys hbytes (fun _ h => absurd h hne) (fun b cap pad hb hle hcm hr hln hnd => ?_)
  rw [cErase] at hnd ⊢
  exact hK (some (b, cap, pad)) ⟨hle, hcm, hr, hln⟩ hnd

theorem put_step {n : Int} {l : List Fnd} {i : Nat} {x : Fnd} {r : List Fnd} (hx : Rest l i x r) (hi : i < (((l.take i).map (Fnd.put n) ++ l.drop i).map Fnd.cs).length) :
    (((l.take i).map (Fnd.put n) ++ l.drop i).map Fnd.cs).set i (splice (((l.take i).map (Fnd.put n) ++ l.drop i).map Fnd.cs)[i] 0 [.int .i64 n]) = (((l.take (i + 1)).map (Fnd.put n) ++ l.drop (i + 1)).map Fnd.cs) := by
  rw [mix_get hx hi, ← mix_set hx]
  rfl
theorem put_nth {n : Int} {l : List Fnd} {i : Nat} {x : Fnd} {r : List Fnd} (hx : Rest l i x r) (hi : i < (((l.take (i + 1)).map (Fnd.put n) ++ l.drop (i + 1)).map Fnd.cs).length) :
    (((l.take (i + 1)).map (Fnd.put n) ++ l.drop (i + 1)).map Fnd.cs)[i] = (x.put n).cs := by
  have h1 := hx.lt
  rw [List.getElem_map, List.getElem_append_left (by simp; omega), List.getElem_map, List.getElem_take]
  have h2 := hx.get x
  congr 2
  simpa [h1] using h2

section
variable (G : Glob)
set_option maxHeartbeats 4000000 in
set_option maxRecDepth 100000 in
theorem f16 (a : Ac) (ht : a.title.length < 4294967281) (hl : a.items.length < 9000000000000000000) (hs : ∀ x ∈ a.items, x.Shorts) : Pure G Tryz.prog 16 [.agg a.cs] (.lst 6 (a.chk.map Fnd.cs)) := by
  have hV := f17 G a ht hl hs
  refine Pure.w c16 fun R hR => ?_
  unfold s16 r16
  unfold Ac.chk at hR
  unfold Ac.cs at hV ⊢
  cases hm : a.may with
  | false =>
    rw [hm] at hV hR
    (repeat' (first | (with_reducible (first | refine split_case (fun h => ?_) (fun h => ?_) | refine gd_case (fun h => ?_) (fun h => ?_) | refine pick_case (fun h => ?_) (fun h => ?_)) <;> (try simp only [Da, Db, Dc, Dd, De, Df, Dg, Dh] at h)) | (with_reducible refine And.intro (by omega) ?_) | (with_reducible refine CALL_pure (hV) ?_) | simp -dsimp -implicitDefEqProofs only [EV1, EV2, EV3, EV4, EV5, seval, ↓reduceIte, reduceCtorEq, eq_self, Option.map_some, decide_true, decide_false, EV6, EV7] | (with_reducible intro blk hblk; (try (have hnx := hblk; simp only [EVK] at hnx; first | (have hne := And.intro hnx hne) | (have hne := hnx)))) | (with_reducible refine both_case ?_ ?_) | (with_reducible refine same_case ?_) | (refine ⟨[actFnd0.cs], rfl, (by simp [actFnd0, Fnd.cs]), rfl, ?_⟩) | (exfalso; omega)))
    exact hR _ _ (Or.inl (Or.inr ⟨rfl, rfl⟩))
  | true =>
    rw [hm] at hV
    rw [hm, if_pos rfl] at hR
    have hlen : a.items.length ≤ 32 := by
      unfold Ac.may at hm
      simp only [Bool.and_eq_true, decide_eq_true_eq] at hm
      exact hm.1.2
    (repeat' (first | (with_reducible (first | refine split_case (fun h => ?_) (fun h => ?_) | refine gd_case (fun h => ?_) (fun h => ?_) | refine pick_case (fun h => ?_) (fun h => ?_)) <;> (try simp only [Da, Db, Dc, Dd, De, Df, Dg, Dh] at h)) | (with_reducible refine And.intro (by omega) ?_) | (with_reducible refine CALL_pure (hV) ?_) | simp -dsimp -implicitDefEqProofs only [EV1, EV2, EV3, EV4, EV5, seval, ↓reduceIte, reduceCtorEq, eq_self, Option.map_some, decide_true, decide_false, EV6, EV7] | (with_reducible intro blk hblk; (try (have hnx := hblk; simp only [EVK] at hnx; first | (have hne := And.intro hnx hne) | (have hne := hnx)))) | (with_reducible refine both_case ?_ ?_) | (with_reducible refine same_case ?_) | (refine ⟨[], rfl, (by simp), rfl, ?_⟩) | (exfalso; omega)))
    refine W_list (ι := Option Nat × List Fnd) a.items (fun i r c => a.chkFrom 0 a.items = c.2 ++ a.chkFrom i r) (fun i c => [(1, .ref [.int .i64 a.number, .str a.title, .int .i64 a.day, .int .i64 a.start.kind, .int .i64 a.start.day, .str a.start.event, .lst 25 (a.items.map Itm.cs)]), (3, .own c.1 46 6 (c.2.map Fnd.cs)), (4, .int .i64 i)])
      (fun i c => tokS c.1 46 (c.2.length * 6)) (some blk, []) rfl (Weak.of (by simp [EnvLe, Env.get, AVle, AVle1]) (SubN.refl _)) (by omega) (fun i x r c hok hx hw => ?_) (fun c hok hn => ?_)
    · have hI := FnSpec.thaw (fnd_flat _) (f13o G x (hs x hx.mem))
      rw [← finds_refs] at hI
      refine W_stop2 fun Y hY => ?_
      (try simp -dsimp -implicitDefEqProofs only [EV1, EV2, EV3, EV4, EV5, seval, ↓reduceIte, reduceCtorEq, eq_self, Option.map_some, decide_true, decide_false, EV6, EV7, hx.yes, hx.le0, hx.lt', hx.row, hw, hx.get])
      intro b5 hb5
      (try simp -dsimp -implicitDefEqProofs only [EV1, EV2, EV3, EV4, EV5, seval, ↓reduceIte, reduceCtorEq, eq_self, Option.map_some, decide_true, decide_false, EV6, EV7, hx.yes, hx.le0, hx.lt', hx.row, hw, hx.get])
      refine CALL_specN [] _ hI.v (AVleA.rfl' _) (SubN.refl _) ?_
      rintro _ _ ⟨d, hd, rfl, rfl⟩ hnd
      rw [List.length_map]
      (try simp -dsimp -implicitDefEqProofs only [EV1, EV2, EV3, EV4, EV5, seval, ↓reduceIte, reduceCtorEq, eq_self, Option.map_some, decide_true, decide_false, EV6, EV7, hx.yes, hx.le0, hx.lt', hx.row, hw, hx.get])
      subst hY
      have hd5 : b5 ∉ (cSt 46 d (x.finds.map Fnd.cs)).keys := nd_app hnd (by simp [Store.keys])
      obtain ⟨F1, hF1⟩ : ∃ F, F = x.finds ++ optF (dupB a i x) (fw 5 tDup) := ⟨_, rfl⟩
      have hfl := finds_len x
      have hF2 : a.fnds i x = F1 ++ ownF a x := by rw [hF1]; unfold Ac.fnds; rw [List.append_assoc]
      have hF1l : F1.length ≤ 11 := by rw [hF1, List.length_append]; have := optF_len (dupB a i x) (fw 5 tDup); omega
      have hfn := fnds_len a i x
      have hcl : c.2.length ≤ 384 := by
        have h1 := congrArg List.length hok
        have h2 := chkFrom_len a a.items 0
        rw [List.length_append] at h1
        omega
      refine W_seq_join (ι := KC) (fun d' => cOk 6 d' (F1.map Fnd.cs) ∧ (Store.keys (cSt 46 d' (F1.map Fnd.cs) ++ (b5, AObj.cells 34 x.cs) :: tokS c.1 46 (c.2.length * 6))).Nodup)
        (fun d' => [(1, .ref [.int .i64 a.number, .str a.title, .int .i64 a.day, .int .i64 a.start.kind, .int .i64 a.start.day, .str a.start.event, .lst 25 (a.items.map Itm.cs)]), (3, .own c.1 46 6 (c.2.map Fnd.cs)), (4, .int .i64 i), (5, .sc (.pointer (some ⟨b5, 0, none⟩))), (6, cAV d' F1.length)])
        (fun d' => cSt 46 d' (F1.map Fnd.cs) ++ (b5, AObj.cells 34 x.cs) :: tokS c.1 46 (c.2.length * 6)) ?_ ?_
      · rintro d' ⟨hd', hnd'⟩
        have hd5' : b5 ∉ (cSt 46 d' (F1.map Fnd.cs)).keys := nd_app hnd' (by simp [Store.keys])
        rw [W_assoc]
        refine W_seq_alt (ι := KC) (κ := Bool × Bool) (fun d2 => cOk 6 d2 ((a.fnds i x).map Fnd.cs) ∧ (Store.keys (cSt 46 d2 ((a.fnds i x).map Fnd.cs) ++ (b5, AObj.cells 34 x.cs) :: tokS c.1 46 (c.2.length * 6))).Nodup)
          (fun d2 => [(1, .ref [.int .i64 a.number, .str a.title, .int .i64 a.day, .int .i64 a.start.kind, .int .i64 a.start.day, .str a.start.event, .lst 25 (a.items.map Itm.cs)]), (3, .own c.1 46 6 (c.2.map Fnd.cs)), (4, .int .i64 i), (6, cAV d2 (a.fnds i x).length)])
          (fun k d2 => match k.1 with
            | true => [(1, .ref [.int .i64 a.number, .str a.title, .int .i64 a.day, .int .i64 a.start.kind, .int .i64 a.start.day, .str a.start.event, .lst 25 (a.items.map Itm.cs)]), (3, .own c.1 46 6 (c.2.map Fnd.cs)), (4, .int .i64 i), (5, .sc (.pointer (some ⟨b5, 0, none⟩))), (6, cAV d2 (a.fnds i x).length), (66, .bool k.2)]
            | false => [(1, .ref [.int .i64 a.number, .str a.title, .int .i64 a.day, .int .i64 a.start.kind, .int .i64 a.start.day, .str a.start.event, .lst 25 (a.items.map Itm.cs)]), (3, .own c.1 46 6 (c.2.map Fnd.cs)), (4, .int .i64 i), (6, cAV d2 (a.fnds i x).length), (89, .bool k.2)])
          (fun d2 => cSt 46 d2 ((a.fnds i x).map Fnd.cs) ++ (b5, AObj.cells 34 x.cs) :: tokS c.1 46 (c.2.length * 6)) ?_ ?_ ?_
        · rintro ⟨_ | _, z⟩ d2 _ h
          · (try simp -dsimp -implicitDefEqProofs only [EV1, EV2, EV3, EV4, EV5, seval, ↓reduceIte, reduceCtorEq, eq_self, Option.map_some, decide_true, decide_false, EV6, EV7, hw])
            (try simp -dsimp -implicitDefEqProofs only [EV1, EV2, EV3, EV4, EV5, seval, ↓reduceIte, reduceCtorEq, eq_self, Option.map_some, decide_true, decide_false, EV6, EV7, hw] at h)
            exact h
          · (try simp -dsimp -implicitDefEqProofs only [EV1, EV2, EV3, EV4, EV5, seval, ↓reduceIte, reduceCtorEq, eq_self, Option.map_some, decide_true, decide_false, EV6, EV7, hw])
            (try simp -dsimp -implicitDefEqProofs only [EV1, EV2, EV3, EV4, EV5, seval, ↓reduceIte, reduceCtorEq, eq_self, Option.map_some, decide_true, decide_false, EV6, EV7, hw] at h)
            exact h
        · rintro d2 ⟨hd2, hnd2⟩
          (try simp -dsimp -implicitDefEqProofs only [EV1, EV2, EV3, EV4, EV5, seval, ↓reduceIte, reduceCtorEq, eq_self, Option.map_some, decide_true, decide_false, EV6, EV7, hw])
          refine W_list (ι := KC × Option Nat × List Fnd) (a.fnds i x) (fun k r e => cOk 6 e.1 ((((a.fnds i x).take k).map (Fnd.put i) ++ (a.fnds i x).drop k).map Fnd.cs) ∧ (Store.keys (cSt 46 e.1 ((((a.fnds i x).take k).map (Fnd.put i) ++ (a.fnds i x).drop k).map Fnd.cs) ++ tokS e.2.1 46 (e.2.2.length * 6))).Nodup ∧ c.2 ++ (a.fnds i x).map (Fnd.put i) = e.2.2 ++ r.map (Fnd.put i))
            (fun k e => [(1, .ref [.int .i64 a.number, .str a.title, .int .i64 a.day, .int .i64 a.start.kind, .int .i64 a.start.day, .str a.start.event, .lst 25 (a.items.map Itm.cs)]), (3, .own e.2.1 46 6 (e.2.2.map Fnd.cs)), (4, .int .i64 i), (6, cAV e.1 (a.fnds i x).length), (9, .int .i64 k)])
            (fun k e => cSt 46 e.1 ((((a.fnds i x).take k).map (Fnd.put i) ++ (a.fnds i x).drop k).map Fnd.cs) ++ tokS e.2.1 46 (e.2.2.length * 6)) (d2, c.1, c.2) ⟨by simpa using hd2, by simpa using (SubN.app ((SubN.refl _).tail _)).2 hnd2, rfl⟩
            (by simp only [List.take_zero, List.map_nil, List.nil_append, List.drop_zero]; exact Weak.sub (SubN.app ((SubN.refl _).tail _))) (by omega) (fun k y r2 e hok2 hy hwk => ?_) (fun e hok2 hnk => ?_)
          · obtain ⟨d3, o, l3⟩ := e
            obtain ⟨hd3, hnd3, hok2⟩ := hok2
            simp only at hd3 hnd3 hok2 ⊢
            have h12 := congrArg List.length hok2
            simp only [List.length_append, List.length_map, List.length_cons] at h12
            have hm0 := mix_len (g := Fnd.put i) (f := Fnd.cs) hy
            rcases d3 with _ | ⟨b, cap, pad⟩
            · exfalso
              have h9 : ((((a.fnds i x).take k).map (Fnd.put i) ++ (a.fnds i x).drop k).map Fnd.cs) = [] := hd3
              rw [h9] at hm0
              have := hy.lt
              simp at hm0
              omega
            · obtain ⟨hle, hcm, hrl, hln⟩ := hd3
              have hi : k < ((((a.fnds i x).take k).map (Fnd.put i) ++ (a.fnds i x).drop k).map Fnd.cs).length := by rw [hm0]; exact hy.lt
              have hm1 := mix_len' (g := Fnd.put i) (f := Fnd.cs) hy
              have hstep := put_step (n := i) hy hi
              have hsp := rows_splice (sz := 6) (off := 0) (c := [.int .i64 i]) (by simp) (pad := pad) hrl hi
              rw [hstep] at hsp
              have hi1 : k < ((((a.fnds i x).take (k + 1)).map (Fnd.put i) ++ (a.fnds i x).drop (k + 1)).map Fnd.cs).length := by rw [hm1]; exact hy.lt
              have htk := rows_take (pad := pad) (fnd_six _) hi1
              rw [put_nth hy hi1] at htk
              have hln1 : (((((a.fnds i x).take (k + 1)).map (Fnd.put i) ++ (a.fnds i x).drop (k + 1)).map Fnd.cs).flatten ++ pad).length = cap * 6 := by rw [← hln, List.length_append, List.length_append, flat_len _ (fnd_six _), flat_len _ hrl, hm0, hm1]
              have hlt := hy.lt
              rw [hm0] at hle
              have hq1 : k * 6 + 0 + 1 ≤ (((((a.fnds i x).take k).map (Fnd.put i) ++ (a.fnds i x).drop k).map Fnd.cs).flatten ++ pad).length := by rw [hln]; omega
              have hq2 : 6 ≤ (List.drop (k * 6) (((((a.fnds i x).take (k + 1)).map (Fnd.put i) ++ (a.fnds i x).drop (k + 1)).map Fnd.cs).flatten ++ pad)).length := by rw [List.length_drop, hln1]; omega
              simp only [cAV, cSt] at hnd3 ⊢
              (try simp -dsimp -implicitDefEqProofs only [EV1, EV2, EV3, EV4, EV5, seval, ↓reduceIte, reduceCtorEq, eq_self, Option.map_some, decide_true, decide_false, EV6, EV7, hy.yes, hy.le0, hy.lt', hwk, Nat.zero_add, List.append_eq, hsp, htk])
              refine ⟨hq1, hq2, ?_⟩
              intro blk hblk
              refine app_rowK [(b, .cells 46 (((((a.fnds i x).take (k + 1)).map (Fnd.put i) ++ (a.fnds i x).drop (k + 1)).map Fnd.cs).flatten ++ pad))] (n := l3.length) (m' := (l3.length + 1) * 6) rfl ?_ (by simp) rfl rfl rfl hblk (by omega) (fun g' hg' => ?_)
              · rintro q rfl hm
                simp [tokS, Store.keys] at hnd3 hm
                exact hnd3 hm.symm
              (try simp -dsimp -implicitDefEqProofs only [EV1, EV2, EV3, EV4, EV5, seval, ↓reduceIte, reduceCtorEq, eq_self, Option.map_some, decide_true, decide_false, EV6, EV7, hwk])
              refine LK_next hy (some (b, cap, pad), g', l3 ++ [y.put i]) ⟨⟨by rw [hm1]; exact hle, hcm, fnd_six _, hln1⟩, ?_, by rw [hok2]; simp⟩ ?_
              · cases g' with
                | none => simp [cSt, tokS, Store.keys]
                | some q =>
                  have := hg' q rfl
                  simp [Store.keys] at this
                  simp [cSt, tokS, Store.keys]
                  exact fun e => this e.symm
              · simp only [cSt, cAV, List.map_append, List.map_cons, List.map_nil, put_cs, List.length_append, List.length_cons, List.length_nil, Nat.zero_add, List.cons_append, List.nil_append]; exact Weak.rfl' _ _
          · obtain ⟨d3, o, l3⟩ := e
            obtain ⟨hd3, hnd3, hok2⟩ := hok2
            simp only at hd3 hnd3 hok2 ⊢
            have fin : a.chkFrom 0 a.items = l3 ++ a.chkFrom (i + 1) r := by
              rw [hok, Ac.chkFrom, ← List.append_assoc, hok2]
              simp
            rcases d3 with _ | ⟨b, cap, pad⟩
            · simp only [cAV] at *
              have h9 : (((a.fnds i x).take (a.fnds i x).length).map (Fnd.put i) ++ (a.fnds i x).drop (a.fnds i x).length).map Fnd.cs = [] := hd3
              have h10 : (a.fnds i x).length = 0 := by simpa using congrArg List.length h9
              (try simp -dsimp -implicitDefEqProofs only [EV1, EV2, EV3, EV4, EV5, seval, ↓reduceIte, reduceCtorEq, eq_self, Option.map_some, decide_true, decide_false, EV6, EV7, hnk, hw, h10])
              exact LK_next hx (o, l3) fin (Weak.sub SubN.appR)
            · simp only [cAV] at *
              (try simp -dsimp -implicitDefEqProofs only [EV1, EV2, EV3, EV4, EV5, seval, ↓reduceIte, reduceCtorEq, eq_self, Option.map_some, decide_true, decide_false, EV6, EV7, hnk, hw])
              exact LK_next hx (o, l3) fin (Weak.sub SubN.appR)
        · intro K hK hK2
          by_cases hin : 0 ≤ x.item ∧ x.item < a.items.length
          · obtain ⟨hi0, hi1⟩ := hin
            have hg := itm_getD a.items x.item hi0 hi1
            have hyk : 0 ≤ (a.items.getD x.item.toNat iz).kind := by
              have hmem : a.items.getD x.item.toNat iz ∈ a.items := by
                have hlt : x.item.toNat < a.items.length := by omega
                simp [List.getD, hlt]
              have h1 : a.items.all Itm.may = true := by
                unfold Ac.may at hm
                simp only [Bool.and_eq_true] at hm
                exact hm.2
              exact (may_pre (List.all_eq_true.1 h1 _ hmem)).1
            (repeat' (first | (with_reducible (first | refine split_case (fun h => ?_) (fun h => ?_) | refine gd_case (fun h => ?_) (fun h => ?_) | refine pick_case (fun h => ?_) (fun h => ?_)) <;> (try simp only [Da, Db, Dc, Dd, De, Df, Dg, Dh] at h)) | (with_reducible refine And.intro (by omega) ?_) | (with_reducible refine CALL_pure (f32 G _ _) ?_) | simp -dsimp -implicitDefEqProofs only [EV1, EV2, EV3, EV4, EV5, seval, ↓reduceIte, reduceCtorEq, eq_self, Option.map_some, decide_true, decide_false, EV6, EV7, hw, sget_app hd5', sget_app hd5, hg] | (with_reducible intro blk hblk; (try (have hnx := hblk; simp only [EVK] at hnx; first | (have hne := And.intro hnx hne) | (have hne := hnx)))) | (with_reducible refine both_case ?_ ?_) | (with_reducible refine same_case ?_) | (exfalso; omega)))
            all_goals first
            | (have ho : ownF a x = [] := (by
                unfold ownF ownB misB notB optF inR
                simp only [Bool.and_eq_true, Bool.or_eq_true, decide_eq_true_eq, Bool.not_eq_true', Bool.and_eq_false_iff, decide_eq_false_iff_not]
                repeat' split
                all_goals first | rfl | (exfalso; omega))
               have e : a.fnds i x = F1 := by rw [hF2, ho, List.append_nil]
               rw [e] at hK2
               first | exact hK2 (true, _) d' ⟨hd', hnd'⟩ | exact hK2 (false, _) d' ⟨hd', hnd'⟩)
            | (have ho : ownF a x = [fw 4 tMissing] := (by
                unfold ownF ownB misB notB optF inR
                simp only [Bool.and_eq_true, Bool.or_eq_true, decide_eq_true_eq, Bool.not_eq_true', Bool.and_eq_false_iff, decide_eq_false_iff_not]
                repeat' split
                all_goals first | rfl | (exfalso; omega))
               have e : a.fnds i x = F1 ++ [fw 4 tMissing] := by rw [hF2, ho]
               refine ⟨[(fw 4 tMissing).cs], rfl, by simp [fw_cs], rfl, ?_⟩
               refine RAW_appC (d := d') (e := 46) (e' := 46) (sz := 6) (bytes := 56) (rows := F1.map Fnd.cs) (ys := [(fw 4 tMissing).cs]) (new := (a.fnds i x).map Fnd.cs) (n := (a.fnds i x).length) ((b5, AObj.cells 34 x.cs) :: tokS c.1 46 (c.2.length * 6)) (by kernel_rfl) (by kernel_rfl) (by kernel_rfl) (by kernel_rfl) (by decide) (by decide) ((SubN.refl _).tail _) hd' (by rw [List.length_map]; rfl) ⟨rfl, rfl⟩ (by simp) (by rw [e]; simp) (by simp) (by simp only [List.length_map, List.length_cons, List.length_nil]; omega) (fun d2 hd2 hnd2 => ?_)
               (try simp -dsimp -implicitDefEqProofs only [EV1, EV2, EV3, EV4, EV5, seval, ↓reduceIte, reduceCtorEq, eq_self, Option.map_some, decide_true, decide_false, EV6, EV7, hw])
               exact hK d2 ⟨hd2, hnd2⟩)
            | (have ho : ownF a x = [fw 9 tNotAm] := (by
                unfold ownF ownB misB notB optF inR
                simp only [Bool.and_eq_true, Bool.or_eq_true, decide_eq_true_eq, Bool.not_eq_true', Bool.and_eq_false_iff, decide_eq_false_iff_not]
                repeat' split
                all_goals first | rfl | (exfalso; omega))
               have e : a.fnds i x = F1 ++ [fw 9 tNotAm] := by rw [hF2, ho]
               refine ⟨[(fw 9 tNotAm).cs], rfl, by simp [fw_cs], rfl, ?_⟩
               refine RAW_appC (d := d') (e := 46) (e' := 46) (sz := 6) (bytes := 56) (rows := F1.map Fnd.cs) (ys := [(fw 9 tNotAm).cs]) (new := (a.fnds i x).map Fnd.cs) (n := (a.fnds i x).length) ((b5, AObj.cells 34 x.cs) :: tokS c.1 46 (c.2.length * 6)) (by kernel_rfl) (by kernel_rfl) (by kernel_rfl) (by kernel_rfl) (by decide) (by decide) ((SubN.refl _).tail _) hd' (by rw [List.length_map]; rfl) ⟨rfl, rfl⟩ (by simp) (by rw [e]; simp) (by simp) (by simp only [List.length_map, List.length_cons, List.length_nil]; omega) (fun d2 hd2 hnd2 => ?_)
               (try simp -dsimp -implicitDefEqProofs only [EV1, EV2, EV3, EV4, EV5, seval, ↓reduceIte, reduceCtorEq, eq_self, Option.map_some, decide_true, decide_false, EV6, EV7, hw])
               exact hK d2 ⟨hd2, hnd2⟩)

          · (repeat' (first | (with_reducible (first | refine split_case (fun h => ?_) (fun h => ?_) | refine gd_case (fun h => ?_) (fun h => ?_) | refine pick_case (fun h => ?_) (fun h => ?_)) <;> (try simp only [Da, Db, Dc, Dd, De, Df, Dg, Dh] at h)) | (with_reducible refine And.intro (by omega) ?_) | (with_reducible refine CALL_pure (f32 G _ _) ?_) | simp -dsimp -implicitDefEqProofs only [EV1, EV2, EV3, EV4, EV5, seval, ↓reduceIte, reduceCtorEq, eq_self, Option.map_some, decide_true, decide_false, EV6, EV7, hw, sget_app hd5', sget_app hd5] | (with_reducible intro blk hblk; (try (have hnx := hblk; simp only [EVK] at hnx; first | (have hne := And.intro hnx hne) | (have hne := hnx)))) | (with_reducible refine both_case ?_ ?_) | (with_reducible refine same_case ?_) | (exfalso; omega)))
            all_goals first
            | (have ho : ownF a x = [] := (by
                unfold ownF ownB misB notB optF inR
                simp only [Bool.and_eq_true, Bool.or_eq_true, decide_eq_true_eq, Bool.not_eq_true', Bool.and_eq_false_iff, decide_eq_false_iff_not]
                repeat' split
                all_goals first | rfl | (exfalso; omega))
               have e : a.fnds i x = F1 := by rw [hF2, ho, List.append_nil]
               rw [e] at hK2
               first | exact hK2 (true, _) d' ⟨hd', hnd'⟩ | exact hK2 (false, _) d' ⟨hd', hnd'⟩)
            | (have ho : ownF a x = [fw 4 tMissing] := (by
                unfold ownF ownB misB notB optF inR
                simp only [Bool.and_eq_true, Bool.or_eq_true, decide_eq_true_eq, Bool.not_eq_true', Bool.and_eq_false_iff, decide_eq_false_iff_not]
                repeat' split
                all_goals first | rfl | (exfalso; omega))
               have e : a.fnds i x = F1 ++ [fw 4 tMissing] := by rw [hF2, ho]
               refine ⟨[(fw 4 tMissing).cs], rfl, by simp [fw_cs], rfl, ?_⟩
               refine RAW_appC (d := d') (e := 46) (e' := 46) (sz := 6) (bytes := 56) (rows := F1.map Fnd.cs) (ys := [(fw 4 tMissing).cs]) (new := (a.fnds i x).map Fnd.cs) (n := (a.fnds i x).length) ((b5, AObj.cells 34 x.cs) :: tokS c.1 46 (c.2.length * 6)) (by kernel_rfl) (by kernel_rfl) (by kernel_rfl) (by kernel_rfl) (by decide) (by decide) ((SubN.refl _).tail _) hd' (by rw [List.length_map]; rfl) ⟨rfl, rfl⟩ (by simp) (by rw [e]; simp) (by simp) (by simp only [List.length_map, List.length_cons, List.length_nil]; omega) (fun d2 hd2 hnd2 => ?_)
               (try simp -dsimp -implicitDefEqProofs only [EV1, EV2, EV3, EV4, EV5, seval, ↓reduceIte, reduceCtorEq, eq_self, Option.map_some, decide_true, decide_false, EV6, EV7, hw])
               exact hK d2 ⟨hd2, hnd2⟩)
            | (have ho : ownF a x = [fw 9 tNotAm] := (by
                unfold ownF ownB misB notB optF inR
                simp only [Bool.and_eq_true, Bool.or_eq_true, decide_eq_true_eq, Bool.not_eq_true', Bool.and_eq_false_iff, decide_eq_false_iff_not]
                repeat' split
                all_goals first | rfl | (exfalso; omega))
               have e : a.fnds i x = F1 ++ [fw 9 tNotAm] := by rw [hF2, ho]
               refine ⟨[(fw 9 tNotAm).cs], rfl, by simp [fw_cs], rfl, ?_⟩
               refine RAW_appC (d := d') (e := 46) (e' := 46) (sz := 6) (bytes := 56) (rows := F1.map Fnd.cs) (ys := [(fw 9 tNotAm).cs]) (new := (a.fnds i x).map Fnd.cs) (n := (a.fnds i x).length) ((b5, AObj.cells 34 x.cs) :: tokS c.1 46 (c.2.length * 6)) (by kernel_rfl) (by kernel_rfl) (by kernel_rfl) (by kernel_rfl) (by decide) (by decide) ((SubN.refl _).tail _) hd' (by rw [List.length_map]; rfl) ⟨rfl, rfl⟩ (by simp) (by rw [e]; simp) (by simp) (by simp only [List.length_map, List.length_cons, List.length_nil]; omega) (fun d2 hd2 hnd2 => ?_)
               (try simp -dsimp -implicitDefEqProofs only [EV1, EV2, EV3, EV4, EV5, seval, ↓reduceIte, reduceCtorEq, eq_self, Option.map_some, decide_true, decide_false, EV6, EV7, hw])
               exact hK d2 ⟨hd2, hnd2⟩)

      · intro K hK
        (try simp -dsimp -implicitDefEqProofs only [EV1, EV2, EV3, EV4, EV5, seval, ↓reduceIte, reduceCtorEq, eq_self, Option.map_some, decide_true, decide_false, EV6, EV7, hw])
        refine W_take a.items i (Nat.le_of_lt hx.lt) (fun k (c : Unit) => ∀ y ∈ a.items.take k, ¬ y = x) (fun k _ => [(1, .ref [.int .i64 a.number, .str a.title, .int .i64 a.day, .int .i64 a.start.kind, .int .i64 a.start.day, .str a.start.event, .lst 25 (a.items.map Itm.cs)]), (3, .own c.1 46 6 (c.2.map Fnd.cs)), (4, .int .i64 i), (5, .sc (.pointer (some ⟨b5, 0, none⟩))), (6, cAV d x.finds.length), (7, .int .i64 k)])
          (fun _ _ => cSt 46 d (x.finds.map Fnd.cs) ++ (b5, AObj.cells 34 x.cs) :: tokS c.1 46 (c.2.length * 6)) () (by simp) (Weak.rfl' _ _) (by have := hx.lt; omega) (fun k y _ hk hy hwk => ?_) (fun _ hk hnk => ?_)
        · have hS := f44 G y (((Itm.Shorts_eq y).1 (hs y (List.mem_of_mem_take hy.mem))).1.fit) x
          (repeat' (first | (with_reducible (first | refine split_case (fun h => ?_) (fun h => ?_) | refine gd_case (fun h => ?_) (fun h => ?_) | refine pick_case (fun h => ?_) (fun h => ?_)) <;> (try simp only [Da, Db, Dc, Dd, De, Df, Dg, Dh] at h)) | (with_reducible refine And.intro (by omega) ?_) | (with_reducible refine CALL_pure (hS) ?_) | (with_reducible refine CALL_pure (f32 G _ _) ?_) | simp -dsimp -implicitDefEqProofs only [EV1, EV2, EV3, EV4, EV5, seval, ↓reduceIte, reduceCtorEq, eq_self, Option.map_some, decide_true, decide_false, EV6, EV7, hy.yes, hy.le0, hy.lt', hy.row, hwk, hx.le0, hx.lt', sget_app hd5] | (with_reducible intro blk hblk; (try (have hnx := hblk; simp only [EVK] at hnx; first | (have hne := And.intro hnx hne) | (have hne := hnx)))) | (with_reducible refine both_case ?_ ?_) | (with_reducible refine same_case ?_) | (exfalso; omega)))
          all_goals first
          | (refine LT_next hy () ?_ (Weak.rfl' _ _)
             intro z hz
             rw [hy.take, List.mem_append, List.mem_singleton] at hz
             rcases hz with hz | rfl
             · exact hk z hz
             · assumption)
          | (have hdb : dupB a i x = true := List.any_eq_true.2 ⟨y, hy.mem, by simpa using h⟩
             rw [hdb] at hF1
             simp only [optF, if_true] at hF1
             refine ⟨[(fw 5 tDup).cs], rfl, by simp [fw_cs], rfl, ?_⟩
             refine RAW_appC (d := d) (e := 46) (e' := 46) (sz := 6) (bytes := 56) (rows := x.finds.map Fnd.cs) (ys := [(fw 5 tDup).cs]) (new := F1.map Fnd.cs) (n := F1.length) ((b5, AObj.cells 34 x.cs) :: tokS c.1 46 (c.2.length * 6)) (by kernel_rfl) (by kernel_rfl) (by kernel_rfl) (by kernel_rfl) (by decide) (by decide) ((SubN.refl _).tail _) hd (by rw [List.length_map]; rfl) ⟨rfl, rfl⟩ (by simp) (by rw [hF1]; simp) (by simp) (by simp only [List.length_map, List.length_cons, List.length_nil]; omega) (fun d' hd' hnd' => ?_)
             (try simp -dsimp -implicitDefEqProofs only [EV1, EV2, EV3, EV4, EV5, seval, ↓reduceIte, reduceCtorEq, eq_self, Option.map_some, decide_true, decide_false, EV6, EV7, hw])
             exact hK d' ⟨hd', hnd'⟩)
        · (try simp -dsimp -implicitDefEqProofs only [EV1, EV2, EV3, EV4, EV5, seval, ↓reduceIte, reduceCtorEq, eq_self, Option.map_some, decide_true, decide_false, EV6, EV7, hnk, hw])
          have hdb : dupB a i x = false := by
            unfold dupB
            rw [List.any_eq_false]
            intro y hy
            simpa using hk y hy
          rw [hdb] at hF1
          simp only [optF, Bool.false_eq_true, if_false, List.append_nil] at hF1
          subst hF1
          exact hK d ⟨hd, hnd⟩
    · (repeat' (first | (with_reducible (first | refine split_case (fun h => ?_) (fun h => ?_) | refine gd_case (fun h => ?_) (fun h => ?_) | refine pick_case (fun h => ?_) (fun h => ?_)) <;> (try simp only [Da, Db, Dc, Dd, De, Df, Dg, Dh] at h)) | (with_reducible refine And.intro (by omega) ?_)  | simp -dsimp -implicitDefEqProofs only [EV1, EV2, EV3, EV4, EV5, seval, ↓reduceIte, reduceCtorEq, eq_self, Option.map_some, decide_true, decide_false, EV6, EV7, hn] | (with_reducible intro blk hblk; (try (have hnx := hblk; simp only [EVK] at hnx; first | (have hne := And.intro hnx hne) | (have hne := hnx)))) | (with_reducible refine both_case ?_ ?_) | (with_reducible refine same_case ?_) | (exfalso; omega)))
      exact hR _ _ (Or.inl (Or.inr ⟨rfl, by rw [hok]; simp [Ac.chkFrom]⟩))
end
end Go.Av
