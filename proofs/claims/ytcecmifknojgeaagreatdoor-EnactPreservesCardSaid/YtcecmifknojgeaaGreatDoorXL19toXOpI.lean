/-
  LINT, 19: maps of siblings and of identities.
-/
import Derived.Test.YtcecmifknojgeaaGreatDoorXL16toXL18
import Derived.Test.YtcecmifknojgeaaGreatDoorXAv25toXAv26
import Derived.Shelf.Strings.SlTrimAscii
import Derived.Test.YtcecmifknojgeaaGreatDoorXOpenGtoXGlob
section
namespace Go.Av
open Go Go.RowKit Go.Proofs
set_option linter.unusedSimpArgs false
set_option linter.unusedVariables false

def mset {κ : Type} (l : List κ) : List (κ × AV) := l.map fun x => (x, AV.bool true)
theorem mset_get {κ : Type} [DecidableEq κ] (k : κ) : ∀ l : List κ, (mgets k (mset l)).getD (.bool false) = .bool (decide (k ∈ l))
  | [] => by simp [mset, mgets]
  | x :: l => by
    simp only [mset, List.map_cons, mgets]
    by_cases h : x = k
    · subst h; simp
    · rw [if_neg h]
      have := mset_get k l
      unfold mset at this
      rw [this]
      have : k ≠ x := fun e => h e.symm
      simp [this]
theorem mset_put {κ : Type} [DecidableEq κ] (k : κ) : ∀ l : List κ, mputs k (.bool true) (mset l) = mset (if k ∈ l then l else l ++ [k])
  | [] => by simp [mset, mputs]
  | x :: l => by
    simp only [mset, List.map_cons, mputs]
    by_cases h : x = k
    · subst h; simp
    · rw [if_neg h]
      have := mset_put k l
      unfold mset at this
      rw [this]
      have h2 : k ≠ x := fun e => h e.symm
      by_cases h3 : k ∈ l <;> simp [h2, h3]
abbrev CKey := Int × List UInt8
def ckVals (k : CKey) : List Value := [.int .i64 k.1, .string ⟨⟨k.2⟩⟩]
def ckVal (k : CKey) : Value := .agg (ckVals k).toArray
def idVals (k : Idd) : List Value := [.int .i64 k.act, .int .i64 k.item, .int .i64 k.n]
def idVal (k : Idd) : Value := .agg (idVals k).toArray
def U.ck (u : U) : CKey := (u.kind, u.label)

theorem eqK_ck (a b : CKey) : eqK [1, 2] (ckVals a) (ckVals b) = some (decide (a = b)) := by
  obtain ⟨a1, a2⟩ := a
  obtain ⟨b1, b2⟩ := b
  simp only [ckVals, eqK, if_true, Option.map_some]
  congr 1
  rw [Bool.eq_iff_iff]; simp
theorem eqK_id (a b : Idd) : eqK [1, 1, 1] (idVals a) (idVals b) = some (decide (a = b)) := by
  rw [idd_dec]
  simp only [idVals, eqK, if_true, Option.map_some]
  congr 1
  rw [Bool.eq_iff_iff]; simp
theorem mapK_ck : MapK Tryz.prog 131 ckVal :=
  mapK_flat (fs := Tryz.prog.fieldsOf 131) (ks := [1, 2]) (by kernel_rfl) (by kernel_rfl) ckVals (fun _ => rfl) eqK_ck (fun k v hv n => by
    simp only [ckVals, List.mem_cons, List.not_mem_nil, or_false] at hv
    rcases hv with rfl | rfl
    · exact sameBits_int n _ _
    · exact sameBits_str n _)
theorem mapK_id : MapK Tryz.prog 23 idVal :=
  mapK_flat (fs := Tryz.prog.fieldsOf 23) (ks := [1, 1, 1]) (by kernel_rfl) (by kernel_rfl) idVals (fun _ => rfl) eqK_id (fun k v hv n => by
    simp only [idVals, List.mem_cons, List.not_mem_nil, or_false] at hv
    rcases hv with rfl | rfl | rfl <;> exact sameBits_int n _ _)
theorem rep_ck (k : Int) (s : List UInt8) : ∀ τ w v, Rep τ w (.agg [.int .i64 k, .str s]) v → v = ckVal (k, s) := by
  intro τ w v h
  simp only [Rep, RepL] at h
  obtain ⟨vs, rfl, _, u, us, h1, rfl, u2, us2, rfl, rfl, rfl⟩ := h
  have : vs = vs.toList.toArray := by simp
  rw [this, h1]; rfl
theorem rep_id (i : Idd) : ∀ τ w v, Rep τ w (.agg [.int .i64 i.act, .int .i64 i.item, .int .i64 i.n]) v → v = idVal i := by
  intro τ w v h
  simp only [Rep, RepL] at h
  obtain ⟨vs, rfl, _, u, us, h1, rfl, u2, us2, rfl, rfl, u3, us3, rfl, rfl, rfl⟩ := h
  have : vs = vs.toList.toArray := by simp
  rw [this, h1]; rfl

theorem mrows_len (c : List Idd) : (mrows idVal (mset c)).length = c.length := by simp [mrows, mset]
def Seen (l c : List Idd) (i : Nat) : Prop := (∀ y, y ∈ c ↔ y ∈ l.take i) ∧ c.Nodup ∧ (c.length = i ↔ (l.take i).Nodup) ∧ c.length ≤ i
theorem seen_step {l c : List Idd} {i : Nat} {x : Idd} {r : List Idd} (hx : Rest l i x r) (h : Seen l c i) : Seen l (if x ∈ c then c else c ++ [x]) (i + 1) := by
  obtain ⟨h1, h2, h3, h4⟩ := h
  unfold Seen
  rw [hx.take]
  by_cases hc : x ∈ c
  · rw [if_pos hc]
    refine ⟨fun y => ?_, h2, ⟨fun e => by omega, fun e => ?_⟩, by omega⟩
    · rw [List.mem_append, ← h1]
      constructor
      · exact .inl
      · rintro (h | h)
        · exact h
        · simp only [List.mem_singleton] at h; subst h; exact hc
    · exact absurd rfl ((List.nodup_append.1 e).2.2 x ((h1 x).1 hc) x (by simp))
  · rw [if_neg hc]
    refine ⟨fun y => by rw [List.mem_append, List.mem_append, ← h1], List.nodup_append.2 ⟨h2, by simp, ?_⟩, ?_, by simp; omega⟩
    · intro a ha b hb e
      simp only [List.mem_singleton] at hb
      subst hb e
      exact hc ha
    · rw [List.length_append, List.length_singleton]
      constructor
      · intro e
        refine List.nodup_append.2 ⟨h3.1 (by omega), by simp, ?_⟩
        intro a ha b hb e
        simp only [List.mem_singleton] at hb
        subst hb e
        exact hc ((h1 a).2 ha)
      · intro e
        have := h3.2 (List.nodup_append.1 e).1
        omega
theorem seen_all {l c : List Idd} (h : Seen l c l.length) : (zId ∈ c ∧ c.length = 1 ↔ (l ≠ [] ∧ (l.all fun x => decide (x = zId)) = true)) ∧ (c.length = l.length ↔ l.Nodup) := by
  obtain ⟨h1, h2, h3, h4⟩ := h
  rw [List.take_length] at h1 h3
  refine ⟨⟨fun ⟨e1, e2⟩ => ?_, fun ⟨e1, e2⟩ => ?_⟩, h3⟩
  · obtain ⟨a, rfl⟩ := List.length_eq_one_iff.1 e2
    simp only [List.mem_singleton] at e1
    subst e1
    refine ⟨fun e => ?_, List.all_eq_true.2 fun y hy => ?_⟩
    · have := (h1 zId).1 (by simp); rw [e] at this; cases this
    · have := (h1 y).2 hy
      simpa using this
  · have hall : ∀ y ∈ c, y = zId := fun y hy => by simpa using (List.all_eq_true.1 e2) y ((h1 y).1 hy)
    obtain ⟨y, hy⟩ := List.exists_mem_of_ne_nil _ e1
    have hyc := (h1 y).2 hy
    have hz := hall y hyc
    subst hz
    refine ⟨hyc, ?_⟩
    match c, hyc, h2, hall with
    | [a], _, _, _ => rfl
    | a :: b :: c, _, h2, hall =>
      have ea := hall a (by simp)
      have eb := hall b (by simp)
      simp [ea, eb] at h2

def own1 (u : U) : Bool := if u.kind = 0 then decide (u.label = []) && (decide ((u.head.length : Int) = 0) && decide ((u.words.length : Int) = 0)) else decide (0 ≤ u.kind) && decide (u.kind ≤ 7) && (labelOk u.label && (rowOk u.head && rowOk u.words))
def nodeOk (u : U) : Bool := own1 u && ((u.kids.all fun k => nests u.kind k.kind) && decide (Apart u.kids) && decide ((u.kids.length : Int) ≤ 64))
theorem kt_nil (k : Int) : ((if 0 ≤ k ∧ k ≤ 7 then kindText k else []) = []) = ¬ (0 ≤ k ∧ k ≤ 7) := by
  apply propext
  split
  · rename_i h
    refine ⟨fun e => ?_, fun e => absurd h e⟩
    rcases lt8 h.1 h.2 with rfl | rfl | rfl | rfl | rfl | rfl | rfl | rfl <;> cases e
  · rename_i h; simp only [true_iff]; exact h
theorem own_no0 {u : U} (h : u.kind = 0) (h2 : u.label ≠ [] ∨ (0 : Int) < (u.head.length : Int) + (u.words.length : Int)) : own1 u = false := by
  unfold own1; rw [if_pos h]
  rcases h2 with h2 | h2
  · simp [h2]
  · simp; intro _ e hw; simp [e, hw] at h2
theorem own_yes0 {u : U} (h : u.kind = 0) (h2 : ¬ u.label ≠ []) (h3 : (u.head.length : Int) + (u.words.length : Int) ≤ 0) : own1 u = true := by
  unfold own1; rw [if_pos h]
  simp only [Bool.and_eq_true, decide_eq_true_eq]
  exact ⟨by simpa using h2, by omega, by omega⟩

section
variable (G : Glob) (hG : GOk G)
include hG

theorem f53 (u : U) (ht : u.Tame) (hh : u.head.length < 1000000) (hww : u.words.length < 1000000) : Pure G Tryz.prog 53 [.agg u.cs] (.bool (nodeOk u)) := by
  have hkl := ht.kids
  have hkn := f83 G hG
  refine Pure.w c53 fun R hR => ?_
  unfold s53 r53
  have hwl : IntKind.i64.wrap ((u.head.length : Int) + (u.words.length : Int)) = (u.head.length : Int) + (u.words.length : Int) := wrap_i64 (by omega) (by omega)
  (repeat' (first | (with_reducible (first | refine split_case (fun h => ?_) (fun h => ?_) | refine gd_case (fun h => ?_) (fun h => ?_)) <;> (try simp only [Da, Db, Dc, Dw, De, Df, Dg, Dh] at h)) | (with_reducible refine CALL_pure (hkn _) ?_) | (with_reducible refine CALL_pure (f84 G _) ?_) | (with_reducible refine CALL_pure (f85 G _ hh) ?_) | (with_reducible refine CALL_pure (f85 G _ hww) ?_) | simp -dsimp -implicitDefEqProofs only [EVz, seval, ↓reduceIte, reduceCtorEq, EV6, EV7, hwl] | fail))
  all_goals (try (refine RAW_makeMap ?_; intro b0 hb0))
  all_goals (try ((repeat' (first | (with_reducible (first | refine split_case (fun h => ?_) (fun h => ?_) | refine gd_case (fun h => ?_) (fun h => ?_)) <;> (try simp only [Da, Db, Dc, Dw, De, Df, Dg, Dh] at h)) | (with_reducible refine CALL_pure (f86 G hG _ _) ?_) | simp -dsimp -implicitDefEqProofs only [EVz, seval, ↓reduceIte, reduceCtorEq, EV6, EV7, hwl, mset_get, hx.yes, hx.le0, hx.lt', hx.get, hx.row, hw, hne] | simp -dsimp -implicitDefEqProofs only [EVz, seval, ↓reduceIte, reduceCtorEq, EV6, EV7, hwl, mset_get, hx.yes, hx.le0, hx.lt', hx.get, hx.row, hw] | simp -dsimp -implicitDefEqProofs only [EVz, seval, ↓reduceIte, reduceCtorEq, EV6, EV7, hwl, mset_get, hn] | simp -dsimp -implicitDefEqProofs only [EVz, seval, ↓reduceIte, reduceCtorEq, EV6, EV7, hwl, mset_get] | (with_reducible intro blk hblk; (try (have hnx := hblk; simp only [EVK] at hnx; first | (have hne := And.intro hnx hne) | (have hne := hnx)))) | (refine W_list u.kids (fun i r (c : Unit) => (u.kids.all fun k => nests u.kind k.kind) = (r.all fun k => nests u.kind k.kind) ∧ Apart (u.kids.take i)) (fun i c => [(1, .ref u.cs), (3, .sc (.map (some b0))), (47, .lst 8 (u.kids.map U.cs)), (48, .int .i64 u.kids.length), (49, .int .i64 i)]) (fun i c => [(b0, .map (mrows ckVal (mset ((u.kids.take i).map U.ck))))]) () ⟨rfl, by simp [Apart]⟩ (Weak.rfl' _ _) (by omega) (fun i x r c hok hx hw => ?_) (fun c hok hn => ?_) ) | (refine RAW_lookup mapK_ck (l := mset ((u.kids.take i).map U.ck)) (k := x.ck) (z := .bool false) (zv := .bool false) rfl (rep_ck _ _) (eT := 4) (by kernel_rfl) (by simp [Store.get, *]) (by kernel_rfl) (fun _ _ => by simp only [Rep]) ?_) | (refine RAW_mapUpdate mapK_ck (l := mset ((u.kids.take i).map U.ck)) (k := x.ck) (yv := .bool true) rfl (rep_ck _ _) rfl (eT := 4) (by kernel_rfl) (by simp [Store.get, *]) ?_) | fail))))
  all_goals first
    | (rename_i hnn
       refine LK_next hx () ⟨by rw [hok.1, List.all_cons, hnn, Bool.true_and], ?_⟩ ?_
       · refine apart_more hx hok.2 fun y hy e => h (List.mem_map.2 ⟨y, hy, ?_⟩)
         unfold U.ck
         rw [e.1, e.2]
       · rw [mset_put, if_neg h, show List.map U.ck (List.take i u.kids) ++ [x.ck] = List.map U.ck (List.take (i + 1) u.kids) by rw [hx.take]; simp]
         exact Weak.sub ⟨fun p hp => List.mem_cons_of_mem _ (List.mem_cons_of_mem _ hp), fun _ => by simp [Store.keys]⟩)
    | (refine RET.eq hR (congrArg AV.bool ?_)
       obtain ⟨y, hy, e⟩ := List.mem_map.1 h
       unfold U.ck at e
       injection e with e1 e2
       unfold nodeOk
       rw [decide_eq_false (apart_no hx hy e1 e2)]
       simp)
    | (refine RET.eq hR (congrArg AV.bool ?_); unfold nodeOk; rw [hok.1, List.all_cons, h]; simp; done)
    | (refine RET.eq hR (congrArg AV.bool ?_); unfold nodeOk; rw [own_no0 (by assumption) (.inr h)]; rfl)
    | (refine RET.eq hR (congrArg AV.bool ?_); unfold nodeOk; rw [own_no0 (by assumption) (.inl h)]; rfl)
    | (rw [List.take_length] at hok
       refine RET.eq hR (congrArg AV.bool ?_); unfold nodeOk; rw [hok.1, decide_eq_true hok.2, own_yes0 (by assumption) (by assumption) h]; rfl)
    | (rw [List.take_length] at hok
       simp only [kt_nil, Classical.not_not] at *
       refine RET.eq hR (congrArg AV.bool ?_); unfold nodeOk own1; rw [hok.1, decide_eq_true hok.2]; simp [*]; done)
    | (simp only [kt_nil, Classical.not_not] at *; refine RET.eq hR (congrArg AV.bool ?_); unfold nodeOk own1; simp [*]; done)
    | (simp only [kt_nil, Classical.not_not] at *; refine RET.eq hR (congrArg AV.bool ?_); unfold nodeOk own1; simp [*]; intros; omega)
    | skip
end
section
variable (G : Glob)

theorem f56 (u : U) (ht : u.Tame) : Pure G Tryz.prog 56 [.agg u.cs] (.bool (idsOk u)) := by
  have hI := f30 G u ht
  have hl : u.ids.length < 1000000 := by rw [U.ids_len]; exact ht.2
  have h0 : u.ids = u.id :: U.idss u.kids := U.ids_eq u
  refine Pure.w c56 fun R hR => ?_
  unfold s56 r56
  unfold idsOk at hR
  obtain ⟨l, hll⟩ : ∃ l, u.ids = l := ⟨_, rfl⟩
  rw [hll] at hR hI hl
  (repeat' (first | (with_reducible refine CALL_pure (hI) ?_) | simp -dsimp -implicitDefEqProofs only [EVz, seval, ↓reduceIte, reduceCtorEq, EV6, EV7] | fail))
  refine RAW_makeMap ?_
  intro b0 hb0
  (repeat' (first | (with_reducible (refine gd_case (fun h => ?_) (fun h => ?_)) <;> (try simp only [Da, Db, Dc, Dw, De, Df, Dg, Dh] at h)) | simp -dsimp -implicitDefEqProofs only [EVz, seval, ↓reduceIte, reduceCtorEq, EV6, EV7, mset_get, mrows_len, idd_zero, hx.yes, hx.le0, hx.lt', hx.get, hx.row, hw, hne] | simp -dsimp -implicitDefEqProofs only [EVz, seval, ↓reduceIte, reduceCtorEq, EV6, EV7, mset_get, mrows_len, idd_zero, hx.yes, hx.le0, hx.lt', hx.get, hx.row, hw] | simp -dsimp -implicitDefEqProofs only [EVz, seval, ↓reduceIte, reduceCtorEq, EV6, EV7, mset_get, mrows_len, idd_zero, hn] | simp -dsimp -implicitDefEqProofs only [EVz, seval, ↓reduceIte, reduceCtorEq, EV6, EV7, mset_get, mrows_len, idd_zero] | (with_reducible intro blk hblk; (try (have hnx := hblk; simp only [EVK] at hnx; (have hne := hnx)))) | (refine W_list (ι := List Idd) l (fun i r c => Seen l c i) (fun i c => [(1, .ref u.cs), (3, .lst 3 (l.map Idd.cs)), (4, .sc (.map (some b0))), (11, .lst 3 (l.map Idd.cs)), (12, .int .i64 l.length), (13, .int .i64 i)]) (fun i c => [(b0, .map (mrows idVal (mset c)))]) [] (by simp [Seen]) (Weak.rfl' _ _) (by omega) (fun i x r c hok hx hw => ?_) (fun c hok hn => ?_) ) | (refine RAW_lookup mapK_id (l := mset c) (k := zId) (z := .bool false) (zv := .bool false) rfl (rep_id zId) (eT := 4) (by kernel_rfl) (by simp [Store.get, *]) (by kernel_rfl) (fun _ _ => by simp only [Rep]) ?_) | (refine RAW_mapUpdate mapK_id (l := mset c) (k := x) (yv := .bool true) rfl (rep_id x) rfl (eT := 4) (by kernel_rfl) (by simp [Store.get, *]) ?_) | (refine RAW_lenMap (es := mrows idVal (mset c)) (kT := 23) (eT := 4) rfl (by kernel_rfl) (by simp [Store.get]) ?_) | fail))
  · rw [mset_put] 
    exact LK_next hx _ (seen_step hx hok) (Weak.sub ⟨fun p hp => List.mem_cons_of_mem _ hp, fun _ => by simp [Store.keys]⟩)
  all_goals
    have hlne : l ≠ [] := by rw [← hll, h0]; simp
    obtain ⟨s1, s2⟩ := seen_all hok
    have hA : (l.all fun x => decide (x = zId)) = (decide (zId ∈ c) && decide ((c.length : Int) = 1)) := by
      rw [Bool.eq_iff_iff, Bool.and_eq_true, decide_eq_true_eq, decide_eq_true_eq, show ((c.length : Int) = 1 ↔ c.length = 1) by omega, s1]
      exact ⟨fun h => ⟨hlne, h⟩, fun h => h.2⟩
    have hB : decide l.Nodup = decide ((c.length : Int) = (l.length : Int)) := by rw [decide_eq_decide, ← s2]; omega
    have hC : (decide (u.kind = 0) == decide (u.id = zId)) = decide (decide (u.id = zId) = decide (u.kind = 0)) := by
      by_cases e1 : u.kind = 0 <;> by_cases e2 : u.id = zId <;> simp [e1, e2]
    refine RET.eq hR (congrArg AV.bool ?_)
    (try rw [hC])
    rw [hA, hB]
    first | rw [decide_eq_true (p := zId ∈ c) (by assumption)] | rw [decide_eq_false (p := zId ∈ c) (by assumption)]
    (try (first | rw [decide_eq_true (p := (c.length : Int) = 1) (by assumption)] | rw [decide_eq_false (p := (c.length : Int) = 1) (by assumption)]))
    (try (first | rw [decide_eq_true (p := (c.length : Int) = (l.length : Int)) (by assumption)] | rw [decide_eq_false (p := (c.length : Int) = (l.length : Int)) (by assumption)]))
    simp

def treeOk2 (u : U) : Bool := u.flat.all nodeOk && (decide (u.dep ≤ 8) && (decide (u.cnt ≤ 1024) && idsOk u))
def marked (w : Wd) : Bool := !decide (w.act = 0 ∧ w.item = 0 ∧ w.at_ = 0)
def bareNode (u : U) : Bool := decide (u.id = zId) && (!u.head.any marked && !u.words.any marked)
def bareOk2 (u : U) : Bool := treeOk2 u && u.flat.all bareNode
end
section
variable (G : Glob) (hG : GOk G)

theorem flats_in {us : List U} {x : U} (h : x ∈ U.flats us) : ∃ k ∈ us, x ∈ k.flat := by
  induction us with
  | nil => rw [flats_nil] at h; cases h
  | cons a us ih =>
    rw [flats_cons] at h
    rcases List.mem_append.1 h with h | h
    · exact ⟨a, by simp, h⟩
    · obtain ⟨k, hk, hx⟩ := ih h; exact ⟨k, by simp [hk], hx⟩
theorem U.Tame.node : ∀ {u : U}, u.Tame → ∀ x ∈ u.flat, x.Tame := by
  intro u
  induction u using U.ind with
  | h u ih =>
    intro ht x hx
    rw [U.flat_eq] at hx
    rcases List.mem_cons.1 hx with rfl | hx
    · exact ht
    · obtain ⟨k, hk, hx⟩ := flats_in hx
      exact ih k hk (ht.kid hk) x hx

include hG in
theorem f34 (u : U) (hs : u.Short) : Pure G Tryz.prog 34 [.agg u.cs] (.bool (treeOk2 u)) := by
  have ht := hs.1
  have hE : Pure G Tryz.prog 48 [.agg u.cs, .sc (.func (.func 53) #[] #[])] (.bool (u.flat.all nodeOk)) :=
    every_pure G _ nodeOk u ht fun x hx => (f53 G hG x (ht.node x hx) (hs.2 x hx).2.1 (hs.2 x hx).2.2.1).v
  refine Pure.w c34 fun R hR => ?_
  unfold s34 r34
  unfold treeOk2 at hR
  generalize u.flat.all nodeOk = q at *
  (repeat' (first | (with_reducible (refine gd_case (fun h => ?_) (fun h => ?_)) <;> (try simp only [Da, Db, Dc, Dw, De, Df, Dg, Dh] at h)) | (with_reducible refine CALL_pure (hE) ?_) | (with_reducible refine CALL_pure (f54 G u ht) ?_) | (with_reducible refine CALL_pure (f55 G u ht) ?_) | (with_reducible refine CALL_pure (f56 G u ht) ?_) | simp -dsimp -implicitDefEqProofs only [EVz, seval, ↓reduceIte, reduceCtorEq, EV6, EV7] | fail))
  (all_goals (first | (refine RET.eq hR ?_; (refine congrArg AV.bool (Bool.eq_iff_iff.2 ?_); simp only [EVB] at *; omega)) | (refine RET.eq hR ?_; ((simp_all []; done)))))

theorem f215 (w : Wd) : Pure G Tryz.prog 215 [.agg w.cs] (.bool (marked w)) := by
  refine Pure.w c215 fun R hR => ?_
  unfold s215 r215
  (repeat' (simp -dsimp -implicitDefEqProofs only [EVz, seval, ↓reduceIte, reduceCtorEq, EV6, EV7]))
  (all_goals (((refine RET.eq hR ?_; ((simp_all [marked]; done))))))

theorem f214 (u : U) (hh : u.head.length < 1000000) (hww : u.words.length < 1000000) : Pure G Tryz.prog 214 [.agg u.cs] (.bool (bareNode u)) := by
  have hv := fun w => (f215 G w).v
  have h1 := f216 G _ marked u.head (by omega) (fun x _ => hv x)
  have h2 := f216 G _ marked u.words (by omega) (fun x _ => hv x)
  refine Pure.w c214 fun R hR => ?_
  unfold s214 r214
  unfold bareNode at hR
  generalize u.head.any marked = q1 at *
  generalize u.words.any marked = q2 at *
  (repeat' (first | (with_reducible (refine gd_case (fun h => ?_) (fun h => ?_)) <;> (try simp only [Da, Db, Dc, Dw, De, Df, Dg, Dh] at h)) | (with_reducible refine CALL_pure (h1) ?_) | (with_reducible refine CALL_pure (h2) ?_) | simp -dsimp -implicitDefEqProofs only [EVz, seval, ↓reduceIte, reduceCtorEq, EV6, EV7, idd_zero] | fail))
  (all_goals (((refine RET.eq hR ?_; ((simp_all []; done))))))

include hG in
theorem f179 (u : U) (hs : u.Short) : Pure G Tryz.prog 179 [.agg u.cs] (.bool (bareOk2 u)) := by
  have ht := hs.1
  have hE : Pure G Tryz.prog 48 [.agg u.cs, .sc (.func (.func 214) #[] #[])] (.bool (u.flat.all bareNode)) :=
    every_pure G _ bareNode u ht fun x hx => (f214 G x (hs.2 x hx).2.1 (hs.2 x hx).2.2.1).v
  refine Pure.w c179 fun R hR => ?_
  unfold s179 r179
  unfold bareOk2 at hR
  generalize u.flat.all bareNode = q at *
  (repeat' (first | (with_reducible (refine gd_case (fun h => ?_) (fun h => ?_)) <;> (try simp only [Da, Db, Dc, Dw, De, Df, Dg, Dh] at h)) | (with_reducible refine CALL_pure (hE) ?_) | (with_reducible refine CALL_pure (f34 G hG u hs) ?_) | simp -dsimp -implicitDefEqProofs only [EVz, seval, ↓reduceIte, reduceCtorEq, EV6, EV7] | fail))
  (all_goals (((refine RET.eq hR ?_; ((simp_all []; done))))))
end
end Go.Av
end

section
namespace Go.Av
open Go Go.RowKit Go.Proofs
set_option linter.unusedSimpArgs false
set_option linter.unusedVariables false

def nameSet : List UInt8 := [97, 98, 99, 100, 101, 102, 103, 104, 105, 106, 107, 108, 109, 110, 111, 112, 113, 114, 115, 116, 117, 118, 119, 120, 121, 122, 48, 49, 50, 51, 52, 53, 54, 55, 56, 57, 45]
theorem nameSet_ch (c : UInt8) : nameSet.contains c = nameCh c := by
  have key : ∀ n : Fin 256, nameSet.contains (UInt8.ofNat n.val) = nameCh (UInt8.ofNat n.val) := by decide +kernel
  have := key ⟨c.toNat, c.toNat_lt⟩
  simpa using this
theorem dropWhile_nil {α : Type} (p : α → Bool) : ∀ l : List α, l.dropWhile p = [] ↔ l.all p = true
  | [] => by simp
  | x :: l => by
    rw [List.dropWhile_cons, List.all_cons]
    split
    · rename_i h; rw [dropWhile_nil p l, h, Bool.true_and]
    · rename_i h; simp [h]
theorem trimS_nil (l cs : List UInt8) : Lib.trimS l cs = [] ↔ (l.all fun c => cs.contains c) = true := by
  unfold Lib.trimS Lib.trimLeftS Lib.trimRightS
  rw [dropWhile_nil, List.all_reverse]
  constructor
  · intro h
    have h2 : l.reverse.all (fun c => cs.contains c) = true := by
      rw [← List.takeWhile_append_dropWhile (p := fun c => cs.contains c) (l := l.reverse), List.all_append, h, Bool.and_true]
      exact List.all_takeWhile
    rwa [List.all_reverse] at h2
  · intro h
    have h2 : l.reverse.dropWhile (fun c => cs.contains c) = [] := (dropWhile_nil _ _).2 (by rw [List.all_reverse]; exact h)
    rw [h2]; rfl

section
variable (G : Glob)

theorem f132 (s : List UInt8) (hs : s.length < 1000000000000000000) : Pure G Tryz.prog 132 [.str s, .str nameSet] (.str (Lib.trimS s nameSet)) := by
  refine Pure.of_calls Tryz.func132 (by kernel_rfl) (by kernel_rfl) fun τ w vs hS hA => ?_
  obtain ⟨u, v, rfl, h1, h2⟩ := vs_two hA
  simp only [Rep] at h1 h2
  subst h1 h2
  refine ⟨.string ⟨⟨Lib.trimS s nameSet⟩⟩, fun _ _ => by simp only [Rep], ?_⟩
  have hsz : (⟨⟨s⟩⟩ : ByteArray).size = s.length := rfl
  refine (Any.strings_Trim_laid Tryz.lays160 (by kernel_rfl) ⟨⟨s⟩⟩ ⟨⟨nameSet⟩⟩ w (by rw [hsz]; omega) (by decide) (ascii_of_all (by decide))).mono ?_
  rintro e w' ⟨rfl, hB⟩
  exact ⟨rfl, hB⟩

theorem f68 (s : List UInt8) (hs : s.length < 1000000000000000000) : Pure G Tryz.prog 68 [.str s] (.bool (nameOk s)) := by
  have hT := f132 G s hs
  have hb : decide (Lib.trimS s nameSet = []) = s.all nameCh := by
    rw [Bool.eq_iff_iff, decide_eq_true_eq, trimS_nil]
    simp only [nameSet_ch]
  unfold nameSet at hT hb
  refine Pure.w c68 fun R hR => ?_
  unfold s68 r68
  unfold nameOk at hR
  generalize s.all nameCh = q at *
  (repeat' (first | (with_reducible (first | refine split_case (fun h => ?_) (fun h => ?_) | refine gd_case (fun h => ?_) (fun h => ?_)) <;> (try simp only [Da, Db, Dc, Dw, De, Df, Dg, Dh] at h)) | (with_reducible refine And.intro (by omega) ?_) | (with_reducible refine CALL_pure (hT) ?_) | simp -dsimp -implicitDefEqProofs only [EVz, seval, ↓reduceIte, reduceCtorEq, EV6, EV7, hb] | fail))
  (all_goals (first | (refine RET.eq hR ?_; (refine congrArg AV.bool (Bool.eq_iff_iff.2 ?_); simp only [isLow, EVB] at *; omega)) | (refine RET.eq hR ?_; ((simp_all [isLow]; done)))))

theorem f69 (s : Sta) (hs : s.event.length < 1000000000000000000) : Pure G Tryz.prog 69 [.agg [.int .i64 s.kind, .int .i64 s.day, .str s.event]] (.bool (startOk s)) := by
  refine Pure.w c69 fun R hR => ?_
  unfold s69 r69
  (repeat' (first | (with_reducible (first | refine split_case (fun h => ?_) (fun h => ?_) | refine gd_case (fun h => ?_) (fun h => ?_)) <;> (try simp only [Da, Db, Dc, Dw, De, Df, Dg, Dh] at h)) | (with_reducible refine CALL_pure (f68 G _ hs) ?_) | (with_reducible refine CALL_pure (f127 G _ _ _) ?_) | simp -dsimp -implicitDefEqProofs only [EVz, seval, ↓reduceIte, reduceCtorEq, EV6, EV7] | (exfalso; omega) | fail))
  (all_goals (((refine RET.eq hR ?_; ((simp_all [startOk]; done))))))
end
end Go.Av
end

section
namespace Go.Av
open Go Go.RowKit Go.Proofs
set_option linter.unusedSimpArgs false
set_option linter.unusedVariables false

mutual
def Itm.fit : Itm → Prop
  | ⟨_, a, t, _, _, u, o, w, _, _, _, _, _, _, _, b⟩ => a.length < 1000000000000000000 ∧ t.length < 1000000000000000000 ∧ u.fit ∧ o.length < 1000000000000000000 ∧ w.length < 1000000000000000000 ∧ b.length < 1000000000000000000 ∧ Itm.fits b
def Itm.fits : List Itm → Prop
  | [] => True
  | u :: us => Itm.fit u ∧ Itm.fits us
end
theorem Itm.fits_iff : ∀ {us : List Itm}, Itm.fits us ↔ ∀ k ∈ us, k.fit
  | [] => by simp [Itm.fits]
  | u :: us => by simp [Itm.fits, Itm.fits_iff (us := us)]
theorem Itm.fit_eq (u : Itm) : u.fit ↔ u.at_.length < 1000000000000000000 ∧ u.to_.length < 1000000000000000000 ∧ u.unit.fit ∧ u.old.length < 1000000000000000000 ∧ u.new.length < 1000000000000000000 ∧ u.by_.length < 1000000000000000000 ∧ ∀ k ∈ u.by_, k.fit := by
  cases u
  rw [Itm.fit, Itm.fits_iff]
section
variable (G : Glob)
end
end Go.Av
end

section
namespace Go.Av
open Go Go.RowKit Go.Proofs
set_option linter.unusedSimpArgs false
set_option linter.unusedVariables false

section
variable {P : Program} {B n : Nat} {t e : TypeId} {a : List AV}
theorem shp_int {k : IntKind} (hu : P.underlying t = some (.int k)) (h : Shp P B n t a) : ∃ i, a = [.int k i] := by
  cases n with
  | zero => exact h.elim
  | succ n => simpa only [Shp, hu] using h
theorem shp_str (hu : P.underlying t = some .string) (h : Shp P B n t a) : ∃ s : List UInt8, s.length ≤ B ∧ a = [.str s] := by
  cases n with
  | zero => exact h.elim
  | succ n => simpa only [Shp, hu] using h
theorem shp_struct {fs : Array Field} (hu : P.underlying t = some (.struct fs)) (h : Shp P B n t a) : ∃ m, n = m + 1 ∧ ShpF (Shp P B m) fs.toList a := by
  cases n with
  | zero => exact h.elim
  | succ n => exact ⟨n, rfl, by simpa only [Shp, hu] using h⟩
theorem choose_list {α : Type} {f : α → List AV} {q : α → Prop} : ∀ rows : List (List AV), (∀ r ∈ rows, ∃ x, r = f x ∧ q x) → ∃ l : List α, rows = l.map f ∧ ∀ x ∈ l, q x
  | [], _ => ⟨[], rfl, fun x hx => by cases hx⟩
  | r :: rows, h => by
    obtain ⟨x, hx, hq⟩ := h r (by simp)
    obtain ⟨l, hl, hql⟩ := choose_list rows fun r hr => h r (by simp [hr])
    refine ⟨x :: l, by rw [hx, hl]; rfl, fun y hy => ?_⟩
    rcases List.mem_cons.1 hy with rfl | hy
    · exact hq
    · exact hql y hy
theorem shp_slice {α : Type} {f : α → List AV} {q : α → Prop} {sz : Nat} (hu : P.underlying t = some (.slice e)) (hsz : P.cellsOf e = sz) (hel : ∀ m, m < n → ∀ r, Shp P B m e r → ∃ x, r = f x ∧ q x) (h : Shp P B n t a) :
    ∃ l : List α, a = [.lst sz (l.map f)] ∧ l.length ≤ B ∧ ∀ x ∈ l, q x := by
  cases n with
  | zero => exact h.elim
  | succ n =>
    simp only [Shp, hu] at h
    obtain ⟨rows, rfl, hl, hr⟩ := h
    obtain ⟨l, rfl, hq⟩ := choose_list rows fun r hr' => hel n (Nat.lt_succ_self n) r (hr r hr')
    exact ⟨l, by rw [hsz], by simpa using hl, hq⟩
end

theorem toL {α : Type} (l : List α) : l.toArray.toList = l := rfl
abbrev Big (n : Nat) : Prop := n < 1000000000000000000
theorem big_of {n : Nat} (h : n ≤ reachBytes) : Big n := by unfold reachBytes at h; show n < _; omega

theorem open_id {n : Nat} {a : List AV} (h : Shp Tryz.prog reachBytes n 23 a) : ∃ i : Idd, a = i.cs := by
  obtain ⟨m, rfl, g⟩ := shp_struct Tryz.underlying23 h
  clear h
  simp only [toL, ShpF] at g
  obtain ⟨a1, b1, rfl, h1, a2, b2, rfl, h2, a3, b3, rfl, h3, rfl⟩ := g
  obtain ⟨i1, rfl⟩ := shp_int Tryz.underlying3 h1
  obtain ⟨i2, rfl⟩ := shp_int Tryz.underlying3 h2
  obtain ⟨i3, rfl⟩ := shp_int Tryz.underlying3 h3
  exact ⟨⟨i1, i2, i3⟩, rfl⟩
theorem open_mark {n : Nat} {a : List AV} (h : Shp Tryz.prog reachBytes n 62 a) : ∃ i1 i2 i3 : Int, a = [.int .i64 i1, .int .i64 i2, .int .i64 i3] := by
  obtain ⟨m, rfl, g⟩ := shp_struct Tryz.underlying62 h
  clear h
  simp only [toL, ShpF] at g
  obtain ⟨a1, b1, rfl, h1, a2, b2, rfl, h2, a3, b3, rfl, h3, rfl⟩ := g
  obtain ⟨i1, rfl⟩ := shp_int Tryz.underlying3 h1
  obtain ⟨i2, rfl⟩ := shp_int Tryz.underlying3 h2
  obtain ⟨i3, rfl⟩ := shp_int Tryz.underlying3 h3
  exact ⟨i1, i2, i3, rfl⟩
theorem open_word {n : Nat} {a : List AV} (h : Shp Tryz.prog reachBytes n 64 a) : ∃ w : Wd, a = w.cs ∧ Big w.text.length := by
  obtain ⟨m, rfl, g⟩ := shp_struct Tryz.underlying64 h
  clear h
  simp only [toL, ShpF] at g
  obtain ⟨a1, b1, rfl, h1, a2, b2, rfl, h2, rfl⟩ := g
  obtain ⟨s, hs, rfl⟩ := shp_str Tryz.underlying9 h1
  obtain ⟨i1, i2, i3, rfl⟩ := open_mark h2
  exact ⟨⟨s, i1, i2, i3⟩, rfl, big_of hs⟩
theorem open_step {n : Nat} {a : List AV} (h : Shp Tryz.prog reachBytes n 100 a) : ∃ w : Stp, a = w.cs ∧ Big w.label.length := by
  obtain ⟨m, rfl, g⟩ := shp_struct Tryz.underlying100 h
  clear h
  simp only [toL, ShpF] at g
  obtain ⟨a1, b1, rfl, h1, a2, b2, rfl, h2, rfl⟩ := g
  obtain ⟨i1, rfl⟩ := shp_int Tryz.underlying3 h1
  obtain ⟨s, hs, rfl⟩ := shp_str Tryz.underlying9 h2
  exact ⟨⟨i1, s⟩, rfl, big_of hs⟩
theorem open_start {n : Nat} {a : List AV} (h : Shp Tryz.prog reachBytes n 31 a) : ∃ s : Sta, a = [.int .i64 s.kind, .int .i64 s.day, .str s.event] ∧ Big s.event.length := by
  obtain ⟨m, rfl, g⟩ := shp_struct Tryz.underlying31 h
  clear h
  simp only [toL, ShpF] at g
  obtain ⟨a1, b1, rfl, h1, a2, b2, rfl, h2, a3, b3, rfl, h3, rfl⟩ := g
  obtain ⟨i1, rfl⟩ := shp_int Tryz.underlying3 h1
  obtain ⟨i2, rfl⟩ := shp_int Tryz.underlying3 h2
  obtain ⟨s, hs, rfl⟩ := shp_str Tryz.underlying9 h3
  exact ⟨⟨i1, i2, s⟩, rfl, big_of hs⟩
theorem open_words {n : Nat} {a : List AV} (h : Shp Tryz.prog reachBytes n 24 a) : ∃ l : List Wd, a = [.lst 4 (l.map Wd.cs)] ∧ Big l.length ∧ ∀ w ∈ l, Big w.text.length := by
  obtain ⟨l, h1, h2, h3⟩ := shp_slice (f := Wd.cs) (q := fun w => Big w.text.length) (sz := 4) Tryz.underlying24 (by kernel_rfl) (fun m _ r hr => open_word hr) h
  exact ⟨l, h1, big_of h2, h3⟩
theorem open_steps {n : Nat} {a : List AV} (h : Shp Tryz.prog reachBytes n 28 a) : ∃ l : List Stp, a = [.lst 2 (l.map Stp.cs)] ∧ Big l.length ∧ ∀ w ∈ l, Big w.label.length := by
  obtain ⟨l, h1, h2, h3⟩ := shp_slice (f := Stp.cs) (q := fun w => Big w.label.length) (sz := 2) Tryz.underlying28 (by kernel_rfl) (fun m _ r hr => open_step hr) h
  exact ⟨l, h1, big_of h2, h3⟩
theorem open_strs {n : Nat} {a : List AV} (h : Shp Tryz.prog reachBytes n 29 a) : ∃ l : List (List UInt8), a = [.lst 1 (l.map srow)] ∧ Big l.length ∧ ∀ w ∈ l, Big w.length := by
  obtain ⟨l, h1, h2, h3⟩ := shp_slice (f := srow) (q := fun w => Big w.length) (sz := 1) Tryz.underlying29 (by kernel_rfl) (fun m _ r hr => by
    obtain ⟨s, hs, rfl⟩ := shp_str Tryz.underlying9 hr
    exact ⟨s, rfl, big_of hs⟩) h
  exact ⟨l, h1, big_of h2, h3⟩
theorem open_unit : ∀ (n : Nat) (a : List AV), Shp Tryz.prog reachBytes n 27 a → ∃ u : U, a = u.cs ∧ u.fit := by
  intro n
  induction n using Nat.strongRecOn with
  | ind n ih =>
    intro a h
    obtain ⟨m, rfl, g⟩ := shp_struct Tryz.underlying27 h
    clear h
    simp only [toL, ShpF] at g
    obtain ⟨a1, b1, rfl, h1, a2, b2, rfl, h2, a3, b3, rfl, h3, a4, b4, rfl, h4, a5, b5, rfl, h5, a6, b6, rfl, h6, rfl⟩ := g
    obtain ⟨i, rfl⟩ := open_id h1
    obtain ⟨k, rfl⟩ := shp_int Tryz.underlying3 h2
    obtain ⟨s, hs, rfl⟩ := shp_str Tryz.underlying9 h3
    obtain ⟨hd, rfl, q1, q2⟩ := open_words h4
    obtain ⟨wd, rfl, q3, q4⟩ := open_words h5
    obtain ⟨ks, rfl, q5, q6⟩ := shp_slice (f := U.cs) (q := U.fit) (sz := 8) Tryz.underlying25 (by kernel_rfl) (fun m' hm r hr => ih m' (by omega) r hr) h6
    refine ⟨⟨i, k, s, hd, wd, ks⟩, ?_, (U.fit_eq _).2 ⟨big_of hs, ⟨q1, q2⟩, ⟨q3, q4⟩, big_of q5, q6⟩⟩
    rw [U.cs_eq]
    rfl
end Go.Av
end
