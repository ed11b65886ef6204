/-
  LINT, 13: valid trees by the reference.
-/
import Derived.Test.YtedcgagodcfgmaaGreatDoorXL12
namespace Go.Av
open Go Go.RowKit Go.Proofs
set_option linter.unusedSimpArgs false
set_option linter.unusedVariables false

/-- A slice is appended: the store's other blocks may be forgotten. -/
theorem app_lst {e : TypeId} {sz bytes m m' : Nat} {σ : Store} {g : Option Nat} {rows ys : List (List AV)} {K : AV → Store → Prop} (hτ : ∀ d, g = some d → σ.get d = some (.tok e m)) (hm : m = rows.length * sz) (hm' : m' = (rows ++ ys).length * sz)
    (hn : (rows.length + ys.length) * bytes ≤ 140737488355328) (hk : ∀ g', K (.own g' e sz (rows ++ ys)) (tokS g' e m')) : appX e sz bytes σ g rows ys K := by
  subst hm hm'
  exact appX_one [] hτ hn (SubN.nil _) (fun g' _ => by simpa using hk g')

/-! ### an inner loop over the first elements of a list -/
structure RestT {α : Type} (l : List α) (i k : Nat) (y : α) : Prop where
  lt : k < i
  lt' : (k : Int) < (l.length : Int)
  yes : decide ((k : Int) < (i : Int)) = true
  le0 : (0 : Int) ≤ (k : Int)
  row : ∀ {β : Type} (f : α → β) (d : β), (l.map f).getD k d = f y
  mem : y ∈ l.take i
  take : l.take (k + 1) = l.take k ++ [y]
def LT {ι : Type} (G : Glob) (i : Nat) (ok : Nat → ι → Prop) (st : Nat → ι → Env) (ss : Nat → ι → Store) (k : Nat) : Env → Store → Prop :=
  fun env σ => ∃ j : Nat × ι, (j.1 ≤ i ∧ ok j.1 j.2) ∧ i - j.1 < i - k ∧ Weak G env σ (st j.1 j.2) (ss j.1 j.2)
theorem LT_next {α ι : Type} {G : Glob} {l : List α} {i k : Nat} {y : α} {ok : Nat → ι → Prop} {st : Nat → ι → Env} {ss : Nat → ι → Store} {env : Env} {σ : Store} (hy : RestT l i k y) (c : ι) (h : ok (k + 1) c) (hw : Weak G env σ (st (k + 1) c) (ss (k + 1) c)) :
    LT G i ok st ss k env σ := ⟨(k + 1, c), ⟨hy.lt, h⟩, by have := hy.lt; show i - (k + 1) < i - k; omega, hw⟩
theorem W_take {α ι : Type} {G : Glob} {P : Program} {a : SCode} {Q : Exit → Env → Store → Prop} {tQ : Tag Q} {env : Env} {σ : Store} (l : List α) (i : Nat) (hi : i ≤ l.length) (ok : Nat → ι → Prop) (st : Nat → ι → Env) (ss : Nat → ι → Store) (c0 : ι)
    (h0 : ok 0 c0) (hw : Weak G env σ (st 0 c0) (ss 0 c0)) (hl : i < 9000000000000000000)
    (more : ∀ k y c, ok k c → RestT l i k y → IntKind.i64.wrap ((k : Int) + 1) = ((k + 1 : Nat) : Int) → W G P a (NR (LT G i ok st ss k) Q ⟨⟩ ⟨⟩) (st k c) (ss k c) ⟨⟩)
    (fin : ∀ c, ok i c → decide ((i : Int) < (i : Int)) = false → W G P a (NR (LT G i ok st ss i) Q ⟨⟩ ⟨⟩) (st i c) (ss i c) ⟨⟩) : W G P (.loop a) Q env σ tQ := by
  refine W_loop (ι := Nat × ι) (fun j => j.1 ≤ i ∧ ok j.1 j.2) (fun j => i - j.1) (fun j => st j.1 j.2) (fun j => ss j.1 j.2) (0, c0) ⟨Nat.zero_le _, h0⟩ hw ?_
  rintro ⟨k, c⟩ ⟨h1, h2⟩
  simp only at h1 h2 ⊢
  rcases Nat.lt_or_ge k i with hk | hk
  · have hkl : k < l.length := by omega
    refine more k l[k] c h2 ⟨hk, by omega, by simpa using hk, by omega, fun f d => by simp [hkl], ?_, List.take_succ_eq_append_getElem hkl⟩ (wrap_up (by omega))
    exact List.mem_iff_getElem.2 ⟨k, by simp; omega, by simp⟩
  · obtain rfl : k = i := by omega
    exact fin c h2 (by simp)

theorem nodup_take {α : Type} {l : List α} {i : Nat} {x : α} {r : List α} (hx : Rest l i x r) (hnd : l.Nodup) : ¬ x ∈ l.take i := by
  intro hm
  have h1 : (l.take (i + 1)).Nodup := hnd.sublist (List.take_sublist (i + 1) l)
  rw [hx.take] at h1
  exact (List.nodup_append.1 h1).2.2 x hm x (by simp) rfl

def U.ids (u : U) : List Idd := u.flat.map U.id
def U.idss (us : List U) : List Idd := (U.flats us).map U.id
theorem U.ids_eq (u : U) : u.ids = u.id :: U.idss u.kids := by unfold U.ids U.idss; rw [U.flat_eq]; rfl
theorem U.idss_cons (u : U) (us : List U) : U.idss (u :: us) = u.ids ++ U.idss us := by unfold U.ids U.idss; rw [U.flats, List.map_append]
theorem U.ids_len (u : U) : u.ids.length = u.flat.length := by simp [U.ids]
def aloneOk (u : U) : Bool :=
  (decide (0 ≤ u.kind) && (decide (u.kind ≤ 7) && (decide ((u.kids.length : Int) ≤ 64) && (rowOk u.head && rowOk u.words)))) &&
  (if u.kind = 0 then decide (u.label = []) && (decide ((u.head.length : Int) = 0) && decide ((u.words.length : Int) = 0)) else labelOk u.label)

section
variable (G : Glob)

theorem f59 : ∀ (u : U), u.Tame → Pure G Tryz.prog 59 [.agg u.cs] (.lst 3 (u.ids.map Idd.cs)) := by
  refine U.ind fun u ih ht => ?_
  have hkl := ht.kids
  have hc := ht.2
  refine Pure.w c59 fun R hR => ?_
  unfold s59 r59
  rw [U.ids_eq] at hR
  have hlen : u.flat.length = 1 + (U.idss u.kids).length := by rw [← U.ids_len, U.ids_eq, List.length_cons]; omega
  (repeat' (first | (with_reducible refine CALL_pure (ih x hx.mem (ht.kid hx.mem)) ?_) | simp -dsimp -implicitDefEqProofs only [EV1, EV2, EV3, EV4, EV5, seval, ↓reduceIte, reduceCtorEq, eq_self, Option.map_some, decide_true, decide_false, EV6, EV7, hx.yes, hx.le0, hx.lt', hx.get, hx.row, hw] | simp -dsimp -implicitDefEqProofs only [EV1, EV2, EV3, EV4, EV5, seval, ↓reduceIte, reduceCtorEq, eq_self, Option.map_some, decide_true, decide_false, EV6, EV7, hn] | simp -dsimp -implicitDefEqProofs only [EV1, EV2, EV3, EV4, EV5, seval, ↓reduceIte, reduceCtorEq, eq_self, Option.map_some, decide_true, decide_false, EV6, EV7] | (with_reducible intro blk hblk; (try (have hnx := hblk; simp only [EVK] at hnx; (have hne := hnx)))) | (refine ⟨[u.id.cs], rfl, (by simp [Idd.cs]), (by simp [Idd.cs]), ?_⟩) | (refine W_list (ι := Option Nat × List Idd) u.kids (fun i r c => u.id :: U.idss u.kids = c.2 ++ U.idss r) (fun i c => [(1, .ref u.cs), (3, .own c.1 24 3 (c.2.map Idd.cs)), (4, .int .i64 i)]) (fun i c => tokS c.1 24 (c.2.length * 3)) (some blk, [u.id]) rfl (Weak.rfl' _ _) (by omega) (fun i x r c hok hx hw => ?_) (fun c hok hn => ?_) )))
  · have h1 := congrArg List.length hok
    simp only [List.length_cons, List.length_append, U.idss_cons] at h1
    refine app_lst (m' := (c.2 ++ x.ids).length * 3) tok_get (by simp) (by simp) (by simp; omega) (fun gn => ?_)
    exact LK_next hx (gn, c.2 ++ x.ids) (by rw [hok, U.idss_cons, List.append_assoc]) (by simp only [List.map_append]; exact Weak.rfl' _ _)
  · exact hR _ _ (Or.inl (Or.inr ⟨rfl, by rw [hok]; simp [U.idss, U.flats]⟩))

theorem f215 (u : U) (hfit : u.fit) (hl : u.label.length < 1000000) (hh : u.head.length < 1000000) (hw : u.words.length < 1000000) : Pure G Tryz.prog 215 [.agg u.cs] (.bool (aloneOk u)) := by
  refine Pure.w c215 fun R hR => ?_
  unfold s215 r215
  (repeat' (first | (with_reducible (first | refine split_case (fun h => ?_) (fun h => ?_) | refine gd_case (fun h => ?_) (fun h => ?_)) <;> (try simp only [Da, Db, Dc, Dd, De, Df, Dg, Dh] at h)) | (with_reducible refine CALL_pure (f270 G _ hh) ?_) | (with_reducible refine CALL_pure (f270 G _ hw) ?_) | (with_reducible refine CALL_pure (f58 G _ hl) ?_) | simp -dsimp -implicitDefEqProofs only [EV1, EV2, EV3, EV4, EV5, seval, ↓reduceIte, reduceCtorEq, eq_self, Option.map_some, decide_true, decide_false, EV6, EV7]))
  (all_goals (first | (refine RET.eq hR ?_; (refine congrArg AV.bool (Bool.eq_iff_iff.2 ?_); simp only [aloneOk, EVB] at *; omega)) | (refine RET.eq hR ?_; ((simp_all [aloneOk]; done)))))

def zId : Idd := ⟨0, 0, 0⟩
def idsOk (u : U) : Bool := (u.ids.all fun x => decide (x = zId)) || (decide (decide (u.id = zId) = decide (u.kind = 0)) && decide u.ids.Nodup)

theorem idd_eq (x y : Idd) : (decide (x.act = y.act) && (decide (x.item = y.item) && (decide (x.n = y.n) && true))) = decide (x = y) := by rw [idd_dec, Bool.and_true]
theorem idd_zero (x : Idd) : (decide (x.act = 0) && (decide (x.item = 0) && (decide (x.n = 0) && true))) = decide (x = zId) := idd_eq x zId

theorem f154 (u : U) (ht : u.Tame) : Pure G Tryz.prog 154 [.agg u.cs] (.bool (idsOk u)) := by
  refine Pure.w c154 fun R hR => ?_
  unfold s154 r154
  have hl : u.ids.length < 1000000 := by rw [U.ids_len]; exact ht.2
  have h0 : u.ids = u.id :: U.idss u.kids := U.ids_eq u
  obtain ⟨l, hll⟩ : ∃ l, u.ids = l := ⟨_, rfl⟩
  have hA := f59 G u ht
  unfold idsOk at hR
  rw [hll] at hR hA hl
  have hl0 : 0 < l.length := by rw [← hll, h0]; simp
  have hg0 : (l.map Idd.cs).getD 0 [] = [.int .i64 u.id.act, .int .i64 u.id.item, .int .i64 u.id.n] := by rw [← hll, h0]; rfl
  (repeat' (first | (with_reducible (first | refine split_case (fun h => ?_) (fun h => ?_) | refine gd_case (fun h => ?_) (fun h => ?_)) <;> (try simp only [Da, Db, Dc, Dd, De, Df, Dg, Dh] at h)) | (with_reducible refine And.intro (by omega) ?_) | (with_reducible refine CALL_pure (hA) ?_) | simp -dsimp -implicitDefEqProofs only [EV1, EV2, EV3, EV4, EV5, seval, ↓reduceIte, reduceCtorEq, eq_self, Option.map_some, decide_true, decide_false, EV6, EV7, hg0, idd_zero, idd_eq, hx.yes, hx.le0, hx.lt', hx.get, hx.row, hw] | simp -dsimp -implicitDefEqProofs only [EV1, EV2, EV3, EV4, EV5, seval, ↓reduceIte, reduceCtorEq, eq_self, Option.map_some, decide_true, decide_false, EV6, EV7, hg0, idd_zero, idd_eq, hn] | simp -dsimp -implicitDefEqProofs only [EV1, EV2, EV3, EV4, EV5, seval, ↓reduceIte, reduceCtorEq, eq_self, Option.map_some, decide_true, decide_false, EV6, EV7, hg0, idd_zero, idd_eq] | (refine W_list (ι := Bool) (l) (fun i r c => (l.all fun x => decide (x = zId)) = (c && r.all fun x => decide (x = zId))) (fun i c => [(1, .ref u.cs), (3, .lst 3 (l.map Idd.cs)), (4, .bool c), (5, .int .i64 i)]) (fun _ _ => []) (true) (by rfl) (Weak.rfl' _ _) (by omega) (fun i x r c hok hx hw => ?_) (fun c hok hn => ?_) ) | (refine LK_next hx _ ?_ (Weak.rfl' _ _))))
  · rw [hok, h]; simp
  · rw [hok, h]; simp
  · exact RET.eq hR (by rw [hok, h]; simp)
  · refine RET.eq hR ?_
    rw [hok]
    simp only [List.all_nil, Bool.and_true]
    rename_i h2
    rw [h2]
    have : ¬ (decide (u.id = zId) = decide (u.kind = 0)) := by simpa using h
    simp [this]
  · rename_i h2
    have hall : (l.all fun x => decide (x = zId)) = false := by rw [hok, h2]; rfl
    have hdd : (decide (u.id = zId) = decide (u.kind = 0)) := by simpa using h
    rw [hall, Bool.false_or, decide_eq_true hdd, Bool.true_and] at hR
    clear hok h h2 hall hdd
    (repeat' (first | (with_reducible (refine split_case (fun h => ?_) (fun h => ?_)) <;> (try simp only [Da, Db, Dc, Dd, De, Df, Dg, Dh] at h)) | simp -dsimp -implicitDefEqProofs only [EV1, EV2, EV3, EV4, EV5, seval, ↓reduceIte, reduceCtorEq, eq_self, Option.map_some, decide_true, decide_false, EV6, EV7, idd_eq, hy.yes, hy.le0, hy.lt', hy.row, hwk, hx.le0, hx.lt', hx.row] | simp -dsimp -implicitDefEqProofs only [EV1, EV2, EV3, EV4, EV5, seval, ↓reduceIte, reduceCtorEq, eq_self, Option.map_some, decide_true, decide_false, EV6, EV7, idd_eq, hnk, hx.le0, hx.lt', hx.row, hw] | simp -dsimp -implicitDefEqProofs only [EV1, EV2, EV3, EV4, EV5, seval, ↓reduceIte, reduceCtorEq, eq_self, Option.map_some, decide_true, decide_false, EV6, EV7, idd_eq, hx.yes, hx.le0, hx.lt', hx.get, hx.row, hw] | simp -dsimp -implicitDefEqProofs only [EV1, EV2, EV3, EV4, EV5, seval, ↓reduceIte, reduceCtorEq, eq_self, Option.map_some, decide_true, decide_false, EV6, EV7, idd_eq, hn] | (refine LK_next hx () ?_ (Weak.rfl' _ _)) | (refine W_list (l) (fun i r (c : Unit) => (l.take i).Nodup) (fun i c => [(3, .lst 3 (l.map Idd.cs)), (6, .int .i64 i)]) (fun _ _ => []) () (by ((simp; done))) (Weak.rfl' _ _) (by omega) (fun i x r c hok hx hw => ?_) (fun c hok hn => ?_) ) | (refine W_take (l) (i) (Nat.le_of_lt hx.lt) (fun k (c : Unit) => ¬ x ∈ l.take k) (fun k c => [(3, .lst 3 (l.map Idd.cs)), (6, .int .i64 i), (7, .int .i64 k)]) (fun _ _ => []) () (by simp) (Weak.rfl' _ _) (by have := hx.lt; omega) (fun k y c hok2 hy hwk => ?_) (fun c hok2 hnk => ?_)) | (refine LT_next hy () ?_ (Weak.rfl' _ _))))
    · refine RET.eq hR (congrArg AV.bool (Eq.symm (decide_eq_false ?_)))
      intro hnd
      subst h
      exact nodup_take hx hnd hy.mem
    · rw [hy.take]; simp [hok2, Ne.symm h]
    · rw [hx.take]
      exact List.nodup_append.2 ⟨hok, by simp, by intro a ha b hb e; simp only [List.mem_singleton] at hb; subst hb e; exact hok2 ha⟩
    · rw [List.take_length] at hok
      exact RET.eq hR (by rw [decide_eq_true hok])

/-- No two siblings of one kind bear one label. -/
def Apart (l : List U) : Prop := (l.map fun k => (k.kind, k.label)).Nodup
instance (l : List U) : Decidable (Apart l) := inferInstanceAs (Decidable (List.Nodup _))
mutual
def U.right : U → Bool
  | ⟨i, k, l, h, w, ks⟩ => aloneOk ⟨i, k, l, h, w, ks⟩ && (U.rights k ks && decide (Apart ks))
def U.rights : Int → List U → Bool
  | _, [] => true
  | k, u :: us => (nests k u.kind && U.right u) && U.rights k us
end
theorem U.right_eq (u : U) : u.right = (aloneOk u && (U.rights u.kind u.kids && decide (Apart u.kids))) := by cases u; rw [U.right]
/-- The texts of a tree are short. -/
def U.Short (u : U) : Prop := u.Tame ∧ ∀ x ∈ u.flat, x.label.length < 1000000 ∧ x.head.length < 1000000 ∧ x.words.length < 1000000 ∧ (∀ w ∈ x.head, w.text.length < 1000000) ∧ (∀ w ∈ x.words, w.text.length < 1000000)
theorem U.flat_kid {u k x : U} (hk : k ∈ u.kids) (hx : x ∈ k.flat) : x ∈ u.flat := by
  rw [U.flat_eq]
  refine List.mem_cons_of_mem _ ?_
  have : ∀ us : List U, k ∈ us → x ∈ U.flats us := by
    intro us
    induction us with
    | nil => intro h; cases h
    | cons a us ih =>
      intro h
      rw [U.flats]
      rcases List.mem_cons.1 h with rfl | h
      · exact List.mem_append.2 (.inl hx)
      · exact List.mem_append.2 (.inr (ih h))
  exact this _ hk
theorem U.flat_self (u : U) : u ∈ u.flat := by rw [U.flat_eq]; simp
theorem U.Short.kid {u k : U} (h : u.Short) (hk : k ∈ u.kids) : k.Short := ⟨h.1.kid hk, fun x hx => h.2 x (U.flat_kid hk hx)⟩
theorem apart_no {l : List U} {i : Nat} {x y : U} {r : List U} (hx : Rest l i x r) (hy : y ∈ l.take i) (h1 : y.kind = x.kind) (h2 : y.label = x.label) : ¬ Apart l := by
  intro h
  unfold Apart at h
  have h3 : ((l.take (i + 1)).map fun k => (k.kind, k.label)).Nodup := h.sublist ((List.take_sublist (i + 1) l).map _)
  rw [hx.take, List.map_append] at h3
  exact (List.nodup_append.1 h3).2.2 (y.kind, y.label) (List.mem_map.2 ⟨y, hy, rfl⟩) (x.kind, x.label) (by simp) (by rw [h1, h2])
theorem apart_more {l : List U} {i : Nat} {x : U} {r : List U} (hx : Rest l i x r) (h : Apart (l.take i)) (hn : ∀ y ∈ l.take i, ¬ (y.kind = x.kind ∧ y.label = x.label)) : Apart (l.take (i + 1)) := by
  unfold Apart at *
  rw [hx.take, List.map_append]
  refine List.nodup_append.2 ⟨h, by simp, ?_⟩
  intro a ha b hb e
  obtain ⟨y, hy, rfl⟩ := List.mem_map.1 ha
  have hb : b = (x.kind, x.label) := by simpa using hb
  subst hb
  injection e with e1 e2
  exact hn y hy ⟨e1, e2⟩

theorem f151 : ∀ (u : U), u.Short → Pure G Tryz.prog 151 [.agg u.cs] (.bool u.right) := by
  refine U.ind fun u ih hs => ?_
  have hkl := hs.1.kids
  have h0 := hs.2 u u.flat_self
  have hfit := hs.1.1
  have hap0 : Apart ([] : List U) := by unfold Apart; simp
  refine Pure.w c151 fun R hR => ?_
  unfold s151 r151
  rw [U.right_eq] at hR
  (repeat' (first | (with_reducible (first | refine split_case (fun h => ?_) (fun h => ?_) | refine gd_case (fun h => ?_) (fun h => ?_)) <;> (try simp only [Da, Db, Dc, Dd, De, Df, Dg, Dh] at h)) | (with_reducible refine CALL_pure (f215 G u hfit h0.1 h0.2.1 h0.2.2.1) ?_) | (with_reducible refine CALL_pure (f35 G _ _) ?_) | (with_reducible refine CALL_pure (ih x hx.mem (hs.kid hx.mem)) ?_) | simp -dsimp -implicitDefEqProofs only [EV1, EV2, EV3, EV4, EV5, seval, ↓reduceIte, reduceCtorEq, eq_self, Option.map_some, decide_true, decide_false, EV6, EV7, hy.yes, hy.le0, hy.lt', hy.row, hwk, hx.le0, hx.lt', hx.row] | simp -dsimp -implicitDefEqProofs only [EV1, EV2, EV3, EV4, EV5, seval, ↓reduceIte, reduceCtorEq, eq_self, Option.map_some, decide_true, decide_false, EV6, EV7, hnk, hx.le0, hx.lt', hx.row, hw] | simp -dsimp -implicitDefEqProofs only [EV1, EV2, EV3, EV4, EV5, seval, ↓reduceIte, reduceCtorEq, eq_self, Option.map_some, decide_true, decide_false, EV6, EV7, hx.yes, hx.le0, hx.lt', hx.get, hx.row, hw] | simp -dsimp -implicitDefEqProofs only [EV1, EV2, EV3, EV4, EV5, seval, ↓reduceIte, reduceCtorEq, eq_self, Option.map_some, decide_true, decide_false, EV6, EV7, hn] | simp -dsimp -implicitDefEqProofs only [EV1, EV2, EV3, EV4, EV5, seval, ↓reduceIte, reduceCtorEq, eq_self, Option.map_some, decide_true, decide_false, EV6, EV7] | (with_reducible intro blk hblk; (try (have hnx := hblk; simp only [EVK] at hnx; (have hne := hnx)))) | (refine LK_next hx () ?_ (Weak.rfl' _ _)) | (refine W_list (u.kids) (fun i r (c : Unit) => U.rights u.kind u.kids = U.rights u.kind r ∧ Apart (u.kids.take i)) (fun i c => [(1, .ref u.cs), (3, .int .i64 i)]) (fun _ _ => []) () (by ((simp [*]; done))) (Weak.rfl' _ _) (by omega) (fun i x r c hok hx hw => ?_) (fun c hok hn => ?_) ) | (refine W_take (u.kids) (i) (Nat.le_of_lt hx.lt) (fun k (c : Unit) => ∀ y ∈ u.kids.take k, ¬ (y.kind = x.kind ∧ y.label = x.label)) (fun k c => [(1, .ref u.cs), (3, .int .i64 i), (4, .int .i64 k)]) (fun _ _ => []) () (by simp) (Weak.rfl' _ _) (by have := hx.lt; omega) (fun k y c hok2 hy hwk => ?_) (fun c hok2 hnk => ?_)) | (refine LT_next hy () ?_ (Weak.rfl' _ _))))
  · exact RET.eq hR (by rw [h]; rfl)
  · exact RET.eq hR (by rw [hok.1, U.rights, h, Bool.and_false]; simp)
  · exact RET.eq hR (by rw [decide_eq_false (apart_no hx hy.mem (by assumption) h)]; simp)
  · rw [hy.take] at hblk
    rcases List.mem_append.1 hblk with hb | hb
    · exact hok2 _ hb
    · simp only [List.mem_singleton] at hb; subst hb; exact fun e => h e.2
  · rw [hy.take] at hblk
    rcases List.mem_append.1 hblk with hb | hb
    · exact hok2 _ hb
    · simp only [List.mem_singleton] at hb; subst hb; exact fun e => h e.1
  · rename_i hn1
    exact ⟨by rw [hok.1, U.rights, hn1, h]; rfl, apart_more hx hok.2 hok2⟩
  · exact RET.eq hR (by rw [hok.1, U.rights, h]; simp)
  · rw [List.take_length] at hok
    exact RET.eq hR (by rw [hok.1, h, U.rights, decide_eq_true hok.2]; rfl)

def treeOk (u : U) : Bool := u.right && (decide (u.dep ≤ 8) && (decide (u.cnt ≤ 1024) && idsOk u))
theorem f97 (u : U) (hs : u.Short) : Pure G Tryz.prog 97 [.agg u.cs] (.bool (treeOk u)) := by
  have ht := hs.1
  refine Pure.w c97 fun R hR => ?_
  unfold s97 r97
  (repeat' (first | (with_reducible (refine gd_case (fun h => ?_) (fun h => ?_)) <;> (try simp only [Da, Db, Dc, Dd, De, Df, Dg, Dh] at h)) | (with_reducible refine CALL_pure (f151 G u hs) ?_) | (with_reducible refine CALL_pure (f152 G u ht) ?_) | (with_reducible refine CALL_pure (f153 G u ht) ?_) | (with_reducible refine CALL_pure (f154 G u ht) ?_) | simp -dsimp -implicitDefEqProofs only [EV1, EV2, EV3, EV4, EV5, seval, ↓reduceIte, reduceCtorEq, eq_self, Option.map_some, decide_true, decide_false, EV6, EV7]))
  (all_goals (first | (refine RET.eq hR ?_; (refine congrArg AV.bool (Bool.eq_iff_iff.2 ?_); simp only [treeOk, EVB] at *; omega)) | (refine RET.eq hR ?_; ((simp_all [treeOk]; done)))))
end
end Go.Av
