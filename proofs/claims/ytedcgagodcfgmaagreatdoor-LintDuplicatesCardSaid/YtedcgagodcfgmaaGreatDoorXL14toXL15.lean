/-
  LINT, 14: bare trees by the reference.
-/
import Derived.Test.YtedcgagodcfgmaaGreatDoorXL13
section
namespace Go.Av
open Go Go.RowKit Go.Proofs
set_option linter.unusedSimpArgs false
set_option linter.unusedVariables false

def Wd.bare (w : Wd) : Wd := ⟨w.text, 0, 0, 0⟩
mutual
def U.strip : U → U
  | ⟨_, k, l, h, w, ks⟩ => ⟨⟨0, 0, 0⟩, k, l, h.map Wd.bare, w.map Wd.bare, U.strips ks⟩
def U.strips : List U → List U
  | [] => []
  | u :: us => U.strip u :: U.strips us
end
theorem U.strips_map : ∀ us : List U, U.strips us = us.map U.strip
  | [] => rfl
  | u :: us => by rw [U.strips, U.strips_map us]; rfl
theorem U.strip_eq (u : U) : u.strip = ⟨⟨0, 0, 0⟩, u.kind, u.label, u.head.map Wd.bare, u.words.map Wd.bare, u.kids.map U.strip⟩ := by cases u; rw [U.strip, U.strips_map]

/-- A row of one is made and appended, the blocks κ being kept. -/
theorem app_rowK {e : TypeId} {sz bytes n m m' : Nat} {τ : Store} (κ : Store) {g : Option Nat} {rows : List (List AV)} {cs : List AV} {K : List (List AV) → AV → Store → Prop} {b k1 : Nat} (hτ : τ = κ ++ tokS g e m) (hg : ∀ d, g = some d → d ∉ κ.keys) (hr : rows.length = n) (hm : m = n * sz)
    (hm' : m' = (n + 1) * sz) (hl : cs.length = sz) (hb : b ∉ τ.keys) (hn : (n + 1) * bytes ≤ 140737488355328) (hk : ∀ g', (∀ d, g' = some d → d ∉ κ.keys) → K [cs] (.own g' e sz (rows ++ [cs])) (κ ++ tokS g' e m')) :
    ∃ rs : List (List AV), rs.length = 1 ∧ (∀ r ∈ rs, r.length = sz) ∧ rs.flatten = cs ∧ appX e sz bytes ((b, .tok e k1) :: τ) g rows rs (K rs) := by
  subst hm hm' hr hτ
  have hbk : b ∉ κ.keys := fun h => hb (by rw [keys_append]; exact List.mem_append.2 (.inl h))
  refine ⟨[cs], rfl, by simpa using hl, by simp, appX_one κ (fun d hd => ?_) (by simpa using hn) ?_ (fun g' hg' => by simpa using hk g' hg')⟩
  · subst hd
    have h1 : ¬ b = d := by rintro rfl; exact hb (by rw [keys_append]; exact List.mem_append.2 (.inr (by simp [tokS, Store.keys])))
    simp only [Store.get, if_neg h1]
    have h2 := hg d rfl
    clear hb hbk hk hg
    induction κ with
    | nil => simp [tokS, Store.get]
    | cons p κ ih =>
      obtain ⟨c, y⟩ := p
      have h3 : ¬ c = d := by rintro rfl; exact h2 (by simp [Store.keys])
      simp only [List.cons_append, Store.get, if_neg h3]
      exact ih (fun h => h2 (by simp only [Store.keys, List.map_cons, List.mem_cons] at h ⊢; exact .inr h))
  · refine ⟨fun p hp => ?_, fun hn => ?_⟩
    · have hp2 : p ∈ ((b, AObj.tok e k1) :: (κ ++ tokS g e (rows.length * sz))) := List.mem_cons_of_mem _ (List.mem_append.2 (.inl hp))
      cases g with
      | none => exact hp2
      | some d =>
        refine List.mem_filter.2 ⟨hp2, ?_⟩
        have : p.1 ≠ d := fun e => hg d rfl (e ▸ List.mem_map.2 ⟨p, hp, rfl⟩)
        simpa using this
    · have h4 : (Store.keys ((b, AObj.tok e k1) :: (κ ++ tokS g e (rows.length * sz)))).Nodup ∨ True := .inr trivial
      have key : ∀ (σ : Store), κ.keys.Sublist σ.keys → σ.keys.Nodup → κ.keys.Nodup := fun σ h hn => hn.sublist h
      have hsub : κ.keys.Sublist (Store.erase ((b, AObj.tok e k1) :: (κ ++ tokS g e (rows.length * sz))) g).keys := by
        cases g with
        | none => simp only [Store.erase, Store.keys, tokS, List.append_nil, List.map_cons]; exact List.sublist_cons_self _ _
        | some d =>
          have hf : (κ.filter fun p => p.1 ≠ d) = κ := List.filter_eq_self.2 fun p hp => by
            have : p.1 ≠ d := fun e => hg d rfl (e ▸ List.mem_map.2 ⟨p, hp, rfl⟩)
            simpa using this
          simp only [Store.erase, Store.keys]
          refine List.Sublist.map _ ?_
          rw [List.filter_cons, List.filter_append, hf]
          split
          · exact (List.sublist_append_left _ _).trans (List.sublist_cons_self _ _)
          · exact List.sublist_append_left _ _
      exact key _ hsub hn

section
variable (G : Glob)

theorem f158 (l : List Wd) (hl : l.length < 1000000) : Pure G Tryz.prog 158 [.lst 4 (l.map Wd.cs)] (.lst 4 ((l.map Wd.bare).map Wd.cs)) := by
  refine Pure.w c158 fun R hR => ?_
  unfold s158 r158
  (repeat' (first | simp -dsimp -implicitDefEqProofs only [EV1, EV2, EV3, EV4, EV5, seval, ↓reduceIte, reduceCtorEq, eq_self, Option.map_some, decide_true, decide_false, EV6, EV7, hx.yes, hx.le0, hx.lt', hx.get, hx.row, hw] | simp -dsimp -implicitDefEqProofs only [EV1, EV2, EV3, EV4, EV5, seval, ↓reduceIte, reduceCtorEq, eq_self, Option.map_some, decide_true, decide_false, EV6, EV7, hn] | simp -dsimp -implicitDefEqProofs only [EV1, EV2, EV3, EV4, EV5, seval, ↓reduceIte, reduceCtorEq, eq_self, Option.map_some, decide_true, decide_false, EV6, EV7] | (with_reducible intro blk hblk; (try (have hnx := hblk; simp only [EVK] at hnx; (have hne := hnx)))) | (refine ⟨[], rfl, (by simp), rfl, ?_⟩) | (refine W_list (ι := Option Nat) (l) (fun i r c => True) (fun i c => [(0, .lst 4 (l.map Wd.cs)), (3, .own c 130 4 ((l.take i).map (fun w => [AV.str w.text, .int .i64 0, .int .i64 0, .int .i64 0]))), (4, .int .i64 i)]) (fun i c => tokS c 130 (i * 4)) (some blk) (by trivial) (Weak.rfl' _ _) (by omega) (fun i x r c hok hx hw => ?_) (fun c hok hn => ?_) ) | (refine app_row (n := i) (m' := (i + 1) * 4) (by exact tok_get) (by simp; have := hx.lt; omega) (by rfl) (by rfl) rfl (by assumption) (by have := hx.lt; omega) (fun gn => ?_)) | (refine LK_next hx gn ?_ (by simp only [hx.take, List.map_append, List.map_cons, List.map_nil]; exact Weak.rfl' _ _))))
  (all_goals (((refine hR _ _ (Or.inl (Or.inr ⟨rfl, ?_⟩)); simp [wd_cs, Wd.bare, Function.comp_def]; done))))

set_option maxHeartbeats 4000000 in
theorem f102 : ∀ (u : U), u.Short → Pure G Tryz.prog 102 [.agg u.cs] (.agg u.strip.cs) := by
  refine U.ind fun u ih hs => ?_
  have hkl := hs.1.kids
  have h0 := hs.2 u u.flat_self
  refine Pure.w c102 fun R hR => ?_
  unfold s102 r102
  (repeat' (first | (with_reducible refine CALL_pure (f158 G _ h0.2.1) ?_) | (with_reducible refine CALL_pure (f158 G _ h0.2.2.1) ?_) | simp -dsimp -implicitDefEqProofs only [EV1, EV2, EV3, EV4, EV5, seval, ↓reduceIte, reduceCtorEq, eq_self, Option.map_some, decide_true, decide_false, EV6, EV7, hne] | simp -dsimp -implicitDefEqProofs only [EV1, EV2, EV3, EV4, EV5, seval, ↓reduceIte, reduceCtorEq, eq_self, Option.map_some, decide_true, decide_false, EV6, EV7] | (with_reducible intro blk hblk; (try (have hnx := hblk; simp only [EVK] at hnx; first | (have hne := And.intro hnx hne) | (have hne := hnx)))) | (with_reducible refine both_case ?_ ?_) | (with_reducible refine same_case ?_)))
  all_goals
    rename_i b2 hb2 _ _
    obtain ⟨b3, h3⟩ : ∃ b, b = blk := ⟨_, rfl⟩
    subst h3
    (repeat' (first | (with_reducible refine CALL_pure (ih x hx.mem (hs.kid hx.mem)) ?_) | simp -dsimp -implicitDefEqProofs only [EV1, EV2, EV3, EV4, EV5, seval, ↓reduceIte, reduceCtorEq, eq_self, Option.map_some, decide_true, decide_false, EV6, EV7, hx.yes, hx.le0, hx.lt', hx.get, hx.row, hw, hne] | simp -dsimp -implicitDefEqProofs only [EV1, EV2, EV3, EV4, EV5, seval, ↓reduceIte, reduceCtorEq, eq_self, Option.map_some, decide_true, decide_false, EV6, EV7, hn, hne] | (with_reducible intro blk hblk; (try (have hnx := hblk; simp only [EVK] at hnx; (have hne := And.intro hnx hne)))) | (with_reducible refine both_case ?_ ?_) | (with_reducible refine same_case ?_) | (refine W_list (ι := Option Nat) u.kids (fun i r c => ∀ d, c = some d → d ∉ Store.keys [(b3, AObj.cells 28 []), (b2, AObj.cells 28 [])]) (fun i c => [(1, .ref u.cs), (2, .sc (.pointer (some ⟨b2, 0, none⟩))), (3, .sc (.pointer (some ⟨b3, 0, none⟩))), (4, .int .i64 i)]) (fun i c => (b3, .cells 28 [.int .i64 0, .int .i64 0, .int .i64 0, .int .i64 u.kind, .str u.label, .lst 4 ((u.head.map Wd.bare).map Wd.cs), .lst 4 ((u.words.map Wd.bare).map Wd.cs), .own c 28 8 ((u.kids.take i).map fun k => k.strip.cs)]) :: (b2, .cells 28 zU) :: tokS c 28 (i * 8)) none (by simp) (Weak.st (by simp [StLe, AVleL, AVle1, zU, tokS])) (by omega) (fun i x r c hok hx hw => ?_) (fun c hok hn => ?_) ) | (refine app_rowK (n := i) (m' := (i + 1) * 8) [_, _] (by rfl) (by simpa [Store.keys] using hok) (by simp; have := hx.lt; omega) rfl rfl (U.cs_len _) (by assumption) (by have := hx.lt; omega) (fun gn hgn => ?_)) | (refine LK_next hx gn (by simpa [Store.keys] using hgn) (by simp only [hx.take, List.map_append, List.map_cons, List.map_nil]; exact Weak.rfl' _ _))))
    (all_goals (((refine hR _ _ (Or.inr ?_); simp [*, AVleL, AVle1, Itm.cs_eq, U.cs_eq, U.strip_eq, U.cs_eq]; done))))
end
end Go.Av
end

section
namespace Go.Av
open Go Go.RowKit Go.Proofs
set_option linter.unusedSimpArgs false
set_option linter.unusedVariables false

def bareOk (u : U) : Bool := treeOk u && decide (u = u.strip)
def alone11 (u : U) : Bool :=
  if u.kind = 0 then decide (u.label = []) && (decide ((u.head.length : Int) = 0) && decide ((u.words.length : Int) = 0))
  else decide (0 < u.kind) && (decide (u.kind ≤ 7) && (labelOk u.label && (rowOk u.head && rowOk u.words)))
mutual
def U.shape : Int → U → Bool
  | d, ⟨i, k, l, h, w, ks⟩ => ((decide (d ≤ 8) && !(decide (0 < d) && decide (k = 0))) && (alone11 ⟨i, k, l, h, w, ks⟩ && decide ((ks.length : Int) ≤ 64))) && (U.shapes (d + 1) k ks && decide (Apart ks))
def U.shapes : Int → Int → List U → Bool
  | _, _, [] => true
  | d, k, u :: us => (nests k u.kind && U.shape d u) && U.shapes d k us
end
theorem U.shape_eq (u : U) (d : Int) : u.shape d = (((decide (d ≤ 8) && !(decide (0 < d) && decide (u.kind = 0))) && (alone11 u && decide ((u.kids.length : Int) ≤ 64))) && (U.shapes (d + 1) u.kind u.kids && decide (Apart u.kids))) := by cases u; rw [U.shape]
def shapeOk (u : U) : Bool := u.shape 0 && decide (u.cnt ≤ 1024)

section
variable (G : Glob)

theorem f56 (u : U) (hs : u.Short) : Pure G Tryz.prog 56 [.agg u.cs] (.bool (bareOk u)) := by
  refine Pure.w c56 fun R hR => ?_
  unfold s56 r56
  have hfit := hs.1.1
  (repeat' (first | (with_reducible (refine gd_case (fun h => ?_) (fun h => ?_)) <;> (try simp only [Da, Db, Dc, Dd, De, Df, Dg, Dh] at h)) | (with_reducible refine CALL_pure (f97 G u hs) ?_) | (with_reducible refine CALL_pure (f102 G u hs) ?_) | (with_reducible refine CALL_pure (f24 G u hfit _) ?_) | simp -dsimp -implicitDefEqProofs only [EV1, EV2, EV3, EV4, EV5, seval, ↓reduceIte, reduceCtorEq, eq_self, Option.map_some, decide_true, decide_false, EV6, EV7]))
  (all_goals (((refine RET.eq hR ?_; ((simp_all [bareOk]; done))))))

theorem f216 (u : U) (hl : u.label.length < 1000000) (hh : u.head.length < 1000000) (hw : u.words.length < 1000000) (hh2 : ∀ w ∈ u.head, w.text.length < 1000000) (hw2 : ∀ w ∈ u.words, w.text.length < 1000000) : Pure G Tryz.prog 216 [.agg u.cs] (.bool (alone11 u)) := by
  refine Pure.w c216 fun R hR => ?_
  unfold s216 r216
  (repeat' (first | (with_reducible (first | refine split_case (fun h => ?_) (fun h => ?_) | refine gd_case (fun h => ?_) (fun h => ?_)) <;> (try simp only [Da, Db, Dc, Dd, De, Df, Dg, Dh] at h)) | (with_reducible refine CALL_pure (f271 G _ hh hh2) ?_) | (with_reducible refine CALL_pure (f271 G _ hw hw2) ?_) | (with_reducible refine CALL_pure (f58 G _ hl) ?_) | simp -dsimp -implicitDefEqProofs only [EV1, EV2, EV3, EV4, EV5, seval, ↓reduceIte, reduceCtorEq, eq_self, Option.map_some, decide_true, decide_false, EV6, EV7]))
  (all_goals (((refine RET.eq hR ?_; first | (simp_all [alone11]; done) | (simp_all [alone11]; omega)))))

theorem f155 : ∀ (u : U) (d : Int), u.Short → 0 ≤ d → d ≤ 1000000 → Pure G Tryz.prog 155 [.agg u.cs, .int .i64 d] (.bool (u.shape d)) := by
  refine U.ind fun u ih d hs hd0 hd1 => ?_
  have hkl := hs.1.kids
  have h0 := hs.2 u u.flat_self
  have hap0 : Apart ([] : List U) := by unfold Apart; simp
  have hwd : IntKind.i64.wrap (d + 1) = d + 1 := wrap_i64 (by omega) (by omega)
  refine Pure.w c155 fun R hR => ?_
  unfold s155 r155
  rw [U.shape_eq] at hR
  (repeat' (first | (with_reducible (first | refine split_case (fun h => ?_) (fun h => ?_) | refine gd_case (fun h => ?_) (fun h => ?_)) <;> (try simp only [Da, Db, Dc, Dd, De, Df, Dg, Dh] at h)) | (with_reducible refine CALL_pure (f216 G u h0.1 h0.2.1 h0.2.2.1 h0.2.2.2.1 h0.2.2.2.2) ?_) | (with_reducible refine CALL_pure (f217 G _ _) ?_) | (with_reducible refine CALL_pure (ih x hx.mem (d + 1) (hs.kid hx.mem) (by omega) (by omega)) ?_) | simp -dsimp -implicitDefEqProofs only [EV1, EV2, EV3, EV4, EV5, seval, ↓reduceIte, reduceCtorEq, eq_self, Option.map_some, decide_true, decide_false, EV6, EV7, hwd, hy.yes, hy.le0, hy.lt', hy.row, hwk, hx.le0, hx.lt', hx.row] | simp -dsimp -implicitDefEqProofs only [EV1, EV2, EV3, EV4, EV5, seval, ↓reduceIte, reduceCtorEq, eq_self, Option.map_some, decide_true, decide_false, EV6, EV7, hwd, hnk, hx.le0, hx.lt', hx.row, hw] | simp -dsimp -implicitDefEqProofs only [EV1, EV2, EV3, EV4, EV5, seval, ↓reduceIte, reduceCtorEq, eq_self, Option.map_some, decide_true, decide_false, EV6, EV7, hwd, hx.yes, hx.le0, hx.lt', hx.get, hx.row, hw] | simp -dsimp -implicitDefEqProofs only [EV1, EV2, EV3, EV4, EV5, seval, ↓reduceIte, reduceCtorEq, eq_self, Option.map_some, decide_true, decide_false, EV6, EV7, hwd, hn] | simp -dsimp -implicitDefEqProofs only [EV1, EV2, EV3, EV4, EV5, seval, ↓reduceIte, reduceCtorEq, eq_self, Option.map_some, decide_true, decide_false, EV6, EV7, hwd] | (with_reducible intro blk hblk; (try (have hnx := hblk; simp only [EVK] at hnx; (have hne := hnx)))) | (refine LK_next hx () ?_ (Weak.sub (SubN.nil _))) | (refine W_list (u.kids) (fun i r (c : Unit) => U.shapes (d + 1) u.kind u.kids = U.shapes (d + 1) u.kind r ∧ Apart (u.kids.take i)) (fun i c => [(1, .int .i64 d), (2, .ref u.cs), (5, .int .i64 i)]) (fun _ _ => []) () (by ((simp [*]; done))) (Weak.rfl' _ _) (by omega) (fun i x r c hok hx hw => ?_) (fun c hok hn => ?_) ) | (refine W_take (u.kids) (i) (Nat.le_of_lt hx.lt) (fun k (c : Unit) => ∀ y ∈ u.kids.take k, ¬ (y.kind = x.kind ∧ y.label = x.label)) (fun k c => [(1, .int .i64 d), (2, .ref u.cs), (5, .int .i64 i), (6, .sc (.pointer (some ⟨blk, 0, none⟩))), (7, .int .i64 k)]) (fun _ _ => [(blk, .cells 28 x.cs)]) () (by simp) (Weak.rfl' _ _) (by have := hx.lt; omega) (fun k y c hok2 hy hwk => ?_) (fun c hok2 hnk => ?_)) | (refine LT_next hy () ?_ (Weak.rfl' _ _))))
  all_goals first
    | exact RET.eq hR (by rw [hok.1, U.shapes, h, Bool.and_false]; simp)
    | exact RET.eq hR (by rw [decide_eq_false (apart_no hx hy.mem (by assumption) h)]; simp)
    | (rw [hy.take] at hblk
       rcases List.mem_append.1 hblk with hb | hb
       · exact hok2 _ hb
       · simp only [List.mem_singleton] at hb; subst hb; first | exact fun e => h e.2 | exact fun e => h e.1)
    | (rename_i hn1; exact ⟨by rw [hok.1, U.shapes, hn1, h]; rfl, apart_more hx hok.2 hok2⟩)
    | exact RET.eq hR (by rw [hok.1, U.shapes, h]; simp)
    | (rw [List.take_length] at hok; exact RET.eq hR (by simp [hok.1, U.shapes, decide_eq_true hok.2, *]))
    | (refine RET.eq hR ?_; simp [*]; done)
    | (refine RET.eq hR ?_; simp [*]; intros; omega)
    | exact RET.eq hR (by simp [*, hok.1, hok.2, U.shapes]; omega)

theorem f100 (u : U) (hs : u.Short) : Pure G Tryz.prog 100 [.agg u.cs] (.bool (shapeOk u)) := by
  have ht := hs.1
  refine Pure.w c100 fun R hR => ?_
  unfold s100 r100
  (repeat' (first | (with_reducible (refine gd_case (fun h => ?_) (fun h => ?_)) <;> (try simp only [Da, Db, Dc, Dd, De, Df, Dg, Dh] at h)) | (with_reducible refine CALL_pure (f155 G u 0 hs (by omega) (by omega)) ?_) | (with_reducible refine CALL_pure (f156 G u ht) ?_) | simp -dsimp -implicitDefEqProofs only [EV1, EV2, EV3, EV4, EV5, seval, ↓reduceIte, reduceCtorEq, eq_self, Option.map_some, decide_true, decide_false, EV6, EV7]))
  (all_goals (((refine RET.eq hR ?_; ((simp_all [shapeOk]; done))))))

end
end Go.Av
end
