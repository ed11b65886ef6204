/-
  ENACT, M2: parents; the reference's own looks into trees.
-/
import Derived.Test.YtcecmifknojgeaaGreatDoorXM1toXAv28
import Derived.Test.YtcecmifknojgeaaGreatDoorXL34toXL54
section
namespace Go.Av
open Go Go.RowKit Go.Proofs
set_option linter.unusedSimpArgs false
set_option linter.unusedVariables false

theorem idxF_first {α : Type} (p : α → Bool) : ∀ (l : List α) (i k : Nat), firstAt p l = some k → idxF p i l = ((i + k : Nat) : Int)
  | [], i, k, h => by cases h
  | x :: l, i, k, h => by
    rw [firstAt] at h
    rw [idxF]
    cases hp : p x with
    | true => rw [hp] at h; simp only [if_true] at h ⊢; injection h with h; subst h; rfl
    | false =>
      rw [hp] at h
      simp only [Bool.false_eq_true, if_false] at h ⊢
      obtain ⟨k', h2, rfl⟩ := Option.map_eq_some_iff.1 h
      rw [idxF_first p l (i + 1) k' h2]
      omega
def parAV (j : Idd) (u : U) : AV := match wayPar j u with
  | some (p, _, k) => .tup [.agg p.id.cs, .int .i64 k, .bool true]
  | none => .tup [.agg [.int .i64 0, .int .i64 0, .int .i64 0], .int .i64 (-1), .bool false]
section
variable (G : Glob)
theorem f176k (σ : Store) (f : Value) (p : U → Bool) (l : List U) (hl : l.length < 9000000000000000000) (hf : ∀ x ∈ l, VSpec G Tryz.prog f [.agg x.cs] σ fun r σ' => r = .bool (p x) ∧ σ' = σ) :
    FnSpec G Tryz.prog 176 [.lst 8 (l.map U.cs), .sc f] σ fun r σ' => r = .int .i64 (idxF p 0 l) ∧ σ' = σ := by
  refine FnSpec.wk c176 fun R hR => ?_
  unfold s176 r176
  (repeat' (first | (with_reducible (refine split_case (fun h => ?_) (fun h => ?_)) <;> (try simp only [Da, Db, Dc, Dw, De, Df, Dg, Dh] at h)) | simp -dsimp -implicitDefEqProofs only [EVz, seval, ↓reduceIte, reduceCtorEq, EV6, EV7, hx.yes, hx.le0, hx.lt', hx.get, hx.row, hw] | simp -dsimp -implicitDefEqProofs only [EVz, seval, ↓reduceIte, reduceCtorEq, EV6, EV7, hn] | simp -dsimp -implicitDefEqProofs only [EVz, seval, ↓reduceIte, reduceCtorEq, EV6, EV7] | (refine LK_next hx () ?_ (Weak.rfl' _ _)) | (refine W_list l (fun i r (c : Unit) => idxF p 0 l = idxF p i r) (fun i c => [(0, .lst 8 (l.map U.cs)), (1, .sc f), (7, .int .i64 l.length), (8, .int .i64 i)]) (fun _ _ => σ) () rfl (Weak.rfl' _ _) (by omega) (fun i x r c hok hx hw => ?_) (fun c hok hn => ?_)) | (refine CALL_keep (hf _ hx.mem) ?_) | fail))
  · refine hR _ _ (.inl (.inl ?_)) (SubN.refl _)
    rw [hok, idxF, if_pos h]
  · rw [hok, idxF, h]; rfl
  · refine hR _ _ (.inl (.inl ?_)) (SubN.refl _)
    rw [hok]; rfl
theorem f163k (σ : Store) (f : Value) (p : U → Bool) (l : List U) (hl : l.length < 9000000000000000000) (hf : ∀ x ∈ l, VSpec G Tryz.prog f [.agg x.cs] σ fun r σ' => r = .bool (p x) ∧ σ' = σ) :
    FnSpec G Tryz.prog 163 [.lst 8 (l.map U.cs), .sc f] σ fun r σ' => r = .bool (l.any p) ∧ σ' = σ := by
  refine FnSpec.wk c163 fun R hR => ?_
  unfold s163 r163
  have hI := f176k G σ f p l hl hf
  (repeat' (first | simp -dsimp -implicitDefEqProofs only [EVz, seval, ↓reduceIte, reduceCtorEq, EV6, EV7] | (refine CALL_keep hI.v ?_) | fail))
  exact hR _ _ (.inl (.inl (congrArg AV.bool (idxF_ge p l 0)))) (SubN.refl _)

theorem f177 (b : Nat) (j : Idd) (u : U) (ht : u.Tame) : FnSpec G Tryz.prog 177 [.agg u.cs, .sc (.pointer (some ⟨b, 0, none⟩))] [(b, .cells 23 j.cs)] fun r σ' => r = .bool (!(U.way j u).isEmpty) ∧ σ' = [(b, .cells 23 j.cs)] := by
  have hW := f50 G j u ht
  refine FnSpec.wk c177 fun R hR => ?_
  unfold s177 r177
  simp only [Idd.cs] at hW
  cases hw : U.way j u with
  | nil =>
    rw [hw] at hW hR
    simp only [wayAV] at hW
    (repeat' (first | (with_reducible refine CALL_pure (hW) ?_) | simp -dsimp -implicitDefEqProofs only [EVz, seval, ↓reduceIte, reduceCtorEq, EV6, EV7] | fail))
    exact hR _ _ (AVle.rfl' _) (SubN.refl _)
  | cons x l =>
    rw [hw] at hW hR
    simp only [wayAV, List.map_cons] at hW
    (repeat' (first | (with_reducible refine CALL_pure (hW) ?_) | simp -dsimp -implicitDefEqProofs only [EVz, seval, ↓reduceIte, reduceCtorEq, EV6, EV7] | (with_reducible intro blk hblk; (try (have hnx := hblk; simp only [EVK] at hnx; (have hne := hnx)))) | fail))
    have := hblk (by simp)
    subst this
    exact hR _ _ (AVle.rfl' _) (SubN.refl _)

theorem f104 (j : Idd) (u : U) (hs : u.Short) (hn : u.ids.Nodup) : Pure G Tryz.prog 104 [.agg u.cs, .agg j.cs] (parAV j u) := by
  have hW := f50 G j u hs.1
  have hwl := way_len j u
  have hc := hs.1.2
  refine Pure.w c104 fun R hR => ?_
  unfold s104 r104
  unfold parAV at hR
  simp only [Idd.cs] at hW ⊢
  by_cases hi : j ∈ u.ids ∧ u.id ≠ j
  · obtain ⟨p, d, k, e1, e2, e3⟩ := par_some hn hi.1 hi.2
    rw [e1] at hR
    obtain ⟨a, x, b, s, hx, hj, hl⟩ := e3.split
    have hpn : p ∈ u.flat := by
      have := fndm_flat u hn e3.mem
      rw [e3.fnd] at this; exact this
    have hps := hs.node hpn
    have hpath := e3.path
    have hdeep := e3.deep
    have hlast := e3.last
    obtain ⟨q, hq⟩ : ∃ q, U.way p.id u = q := ⟨_, rfl⟩
    rw [hq] at hpath hdeep hlast
    have hlen : (U.way j u).length = d + 2 := by rw [hpath]; simp; omega
    have hwne : U.way j u ≠ [] := by intro e; rw [e] at hlen; simp at hlen
    rw [wayAV_ne hwne] at hW
    have hg : ((U.way j u).map U.cs).getD d [] = p.cs := by
      have h1 : (U.way j u)[d]? = some p := by
        rw [hpath, List.getElem?_append_left (by omega)]
        rw [List.getLast?_eq_getElem?, hdeep] at hlast
        simpa using hlast
      simp only [List.getD, List.getElem?_map, h1, Option.map_some, Option.getD_some]
    obtain ⟨L, hL⟩ : ∃ L, U.way j u = L := ⟨_, rfl⟩
    rw [hL] at hW hlen hg hwl
    have hwp : IntKind.i64.wrap ((L.length : Int) - 2) = (d : Int) := by rw [wrap_i64 (by omega) (by omega)]; omega
    have hkl := hps.1.kids
    have hix : idxF (fun k => !(U.way j k).isEmpty) 0 p.kids = (k : Int) := by
      rw [idxF_first _ _ 0 k (by rw [s.no_way, hj])]; simp
    have e0 : decide ((L.length : Int) < 2) = false := decide_eq_false (by omega)
    (repeat' (first | (with_reducible refine And.intro (by omega) ?_) | (with_reducible refine CALL_pure (hW) ?_) | simp -dsimp -implicitDefEqProofs only [EVz, seval, ↓reduceIte, reduceCtorEq, EV6, EV7, hwp, hg, e0, hne] | simp -dsimp -implicitDefEqProofs only [EVz, seval, ↓reduceIte, reduceCtorEq, EV6, EV7, hwp, hg, e0] | (with_reducible intro blk hblk; (try (have hnx := hblk; simp only [EVK] at hnx; first | (have hne := And.intro hnx hne) | (have hne := hnx)))) | fail))
    rename_i b1 _ _ _ b2 _ _ _
    have hI := f176k G [(b1, .cells 23 j.cs)] (.func (.func 177) #[] #[.pointer (some ⟨b1, 0, none⟩)]) (fun k => !(U.way j k).isEmpty) p.kids (by omega)
      (fun y hy => ⟨_, _, _, rfl, f177 G b1 j y (hps.1.kid hy)⟩)
    rw [hix] at hI
    refine CALL_spec [(b1, .cells 23 j.cs)] [(blk, .cells 27 p.cs), (b2, .cells 23 [.int .i64 0, .int .i64 0, .int .i64 0])] hI.v (AVleA.rfl' _) (SubN.perm List.perm_append_comm) ?_
    rintro _ _ ⟨rfl, rfl⟩
    have n1 : ¬ b1 = b2 := fun e => hne.2.1 e.symm
    have n2 : ¬ b1 = blk := fun e => hne.1.2 e.symm
    (repeat' (simp -dsimp -implicitDefEqProofs only [EVz, seval, ↓reduceIte, reduceCtorEq, EV6, EV7, hne, n1, n2, List.cons_append, List.nil_append]))
    exact hR _ _ (Or.inl (Or.inl rfl))
  · have hnone : wayPar j u = none := by
      by_cases h1 : j ∈ u.ids
      · exact wayPar_here (Classical.byContradiction fun h2 => hi ⟨h1, h2⟩)
      · unfold wayPar
        rw [(way_no u).2 h1]
        rfl
    rw [hnone] at hR
    have hl1 : (U.way j u).length < 2 := by
      by_cases h1 : j ∈ u.ids
      · rw [way_here (Classical.byContradiction fun h2 => hi ⟨h1, h2⟩)]; simp
      · rw [(way_no u).2 h1]; simp
    cases hw : U.way j u with
    | nil =>
      rw [hw] at hW
      simp only [wayAV] at hW
      (repeat' (first | (with_reducible refine CALL_pure (hW) ?_) | simp -dsimp -implicitDefEqProofs only [EVz, seval, ↓reduceIte, reduceCtorEq, EV6, EV7, hne] | simp -dsimp -implicitDefEqProofs only [EVz, seval, ↓reduceIte, reduceCtorEq, EV6, EV7] | (with_reducible intro blk hblk; (try (have hnx := hblk; simp only [EVK] at hnx; first | (have hne := And.intro hnx hne) | (have hne := hnx)))) | fail))
      exact hR _ _ (Or.inl (Or.inl rfl))
    | cons x l =>
      rw [hw] at hW hl1
      simp only [wayAV, List.map_cons] at hW
      simp only [List.length_cons] at hl1
      have e0 : decide (((l.length + 1 : Nat) : Int) < 2) = true := decide_eq_true (by omega)
      (repeat' (first | (with_reducible refine CALL_pure (hW) ?_) | simp -dsimp -implicitDefEqProofs only [EVz, seval, ↓reduceIte, reduceCtorEq, EV6, EV7, e0, hne] | simp -dsimp -implicitDefEqProofs only [EVz, seval, ↓reduceIte, reduceCtorEq, EV6, EV7, e0] | (with_reducible intro blk hblk; (try (have hnx := hblk; simp only [EVK] at hnx; first | (have hne := And.intro hnx hne) | (have hne := hnx)))) | fail))
      exact hR _ _ (Or.inl (Or.inl rfl))
end
end Go.Av
end

section
namespace Go.Av
open Go Go.RowKit Go.Proofs
set_option linter.unusedSimpArgs false
set_option linter.unusedVariables false

theorem markW_step (a b : Int) (l : List (List UInt8)) (m : Int) {i : Nat} {s : List UInt8} {r : List (List UInt8)} (hx : Rest l i s r) : markW a b (l.take (i + 1)) m = markW a b (l.take i) m ++ [⟨s, a, b, m + i⟩] := by
  have h : (l.take i).length = i := by rw [List.length_take]; have := hx.lt; omega
  rw [hx.take, markW_app, h]
  rfl
section
variable (G : Glob)
end
end Go.Av
end

section
namespace Go.Av
open Go Go.RowKit Go.Proofs
set_option linter.unusedSimpArgs false
set_option linter.unusedVariables false

section
variable (G : Glob)
def anc (j : Idd) (u : U) : List Idd := ((U.way j u).dropLast.map U.id).reverse
theorem f165 (j : Idd) (u : U) (ht : u.Tame) : Pure G Tryz.prog 165 [.agg u.cs, .agg j.cs] (.lst 3 ((anc j u).map Idd.cs)) := by
  have hW := f50 G j u ht
  have hwl := way_len j u
  have hc := ht.2
  refine Pure.w c165 fun R hR => ?_
  unfold s165 r165
  unfold anc at hR
  simp only [Idd.cs] at hW ⊢
  cases hw0 : U.way j u with
  | nil =>
    rw [hw0] at hW hR
    simp only [wayAV] at hW
    (repeat' (first | (with_reducible refine CALL_pure (hW) ?_) | simp -dsimp -implicitDefEqProofs only [EVz, seval, ↓reduceIte, reduceCtorEq, EV6, EV7] | fail))
    refine W_list ([] : List U) (fun i r (c : Unit) => True) (fun i c => [(5, .nil), (6, .nil), (7, .int .i64 (-2))]) (fun i c => []) () trivial (Weak.rfl' _ _) (by simp) (fun i x r c hok hx hw => ?_) (fun c hok hn => ?_)
    · exact absurd hx.lt (by simp)
    · (repeat' (simp -dsimp -implicitDefEqProofs only [EVz, seval, ↓reduceIte, reduceCtorEq, EV6, EV7, hn]))
      exact hR _ _ (Or.inl (Or.inr (by simp)))
  | cons y l =>
    have hwne : U.way j u ≠ [] := by rw [hw0]; simp
    rw [wayAV_ne hwne] at hW
    obtain ⟨L, hL⟩ : ∃ L, U.way j u = L := ⟨_, rfl⟩
    rw [hL] at hW hwl hwne hR
    have hpos : 1 ≤ L.length := by cases L <;> simp_all
    have hwp : IntKind.i64.wrap ((L.length : Int) - 2) = (L.length : Int) - 2 := wrap_i64 (by omega) (by omega)
    clear hw0 hL
    have hdl : L.dropLast.reverse.length = L.length - 1 := by simp
    (repeat' (first | (with_reducible refine CALL_pure (hW) ?_) | simp -dsimp -implicitDefEqProofs only [EVz, seval, ↓reduceIte, reduceCtorEq, EV6, EV7, hwp] | fail))
    refine W_list (ι := Option Nat) L.dropLast.reverse (fun i r c => True) (fun i c => [(5, .own c 23 3 ((L.dropLast.reverse.take i).map fun x => x.id.cs)), (6, .lst 8 (L.map U.cs)), (7, .int .i64 ((L.length : Int) - 2 - i))]) (fun i c => tokS c 23 (i * 3)) none trivial (Weak.of (by simp [EnvLe, Env.get, AVle, AVle1]) (SubN.refl _)) (by omega) (fun i x r c hok hx hw => ?_) (fun c hok hn => ?_)
    · have hi := hx.lt
      rw [hdl] at hi
      have e1 : decide ((0 : Int) ≤ (L.length : Int) - 2 - i) = true := decide_eq_true (by omega)
      have w1 : IntKind.i64.wrap ((L.length : Int) - 2 - i - 1) = (L.length : Int) - 2 - ((i + 1 : Nat) : Int) := by rw [wrap_i64 (by omega) (by omega)]; omega
      have hn2 : ((L.length : Int) - 2 - i).toNat = L.length - 2 - i := by omega
      have hg : (L.map U.cs).getD (L.length - 2 - i) [] = x.cs := by
        have h1 := hx.get noU
        have h2 : L.dropLast.reverse[i]? = some x := by
          rw [List.getD_eq_getElem?_getD] at h1
          rw [List.getElem?_eq_getElem (by rw [hdl]; exact hi)] at h1 ⊢
          simp at h1 ⊢
          exact h1
        rw [List.getElem?_reverse (by simp; omega), List.getElem?_dropLast] at h2
        simp only [List.length_dropLast] at h2
        rw [show L.length - 1 - 1 - i = L.length - 2 - i by omega, if_pos (by omega)] at h2
        simp only [List.getD, List.getElem?_map, h2, Option.map_some, Option.getD_some]
      (repeat' (first | (with_reducible refine And.intro (by omega) ?_) | simp -dsimp -implicitDefEqProofs only [EVz, seval, ↓reduceIte, reduceCtorEq, EV6, EV7, e1, w1, hn2, hg] | (with_reducible intro blk hblk; (try (have hnx := hblk; simp only [EVK] at hnx; (have hne := hnx)))) | fail))
      refine app_row (n := i) (m' := (i + 1) * 3) tok_get (by rw [List.length_map, List.length_take]; omega) rfl rfl rfl (by assumption) (by omega) (fun gn => ?_)
      refine LK_next hx gn trivial ?_
      simp only [hx.take, List.map_append, List.map_cons, List.map_nil, Idd.cs]
      exact Weak.rfl' _ _
    · have e1 : decide ((0 : Int) ≤ (L.length : Int) - 2 - (L.dropLast.reverse.length : Int)) = false := decide_eq_false (by rw [hdl]; omega)
      (repeat' (simp -dsimp -implicitDefEqProofs only [EVz, seval, ↓reduceIte, reduceCtorEq, EV6, EV7, e1]))
      exact hR _ _ (Or.inl (Or.inr ⟨rfl, by rw [List.take_length, ← List.map_reverse, List.map_map]; rfl⟩))
end
end Go.Av
end

section
namespace Go.Av
open Go Go.RowKit Go.Proofs
set_option linter.unusedSimpArgs false
set_option linter.unusedVariables false

def LeRep (x y : AV) : Prop := ∀ σ w u, Rep σ w x u → Rep σ w y u
inductive LeReps : List AV → List AV → Prop
  | nil : LeReps [] []
  | cons {x y xs ys} : LeRep x y → LeReps xs ys → LeReps (x :: xs) (y :: ys)
theorem LeRep.of {x y : AV} (h : AVle x y) : LeRep x y := fun _ _ _ hr => h.rep hr
theorem LeRep.refl (x : AV) : LeRep x x := fun _ _ _ h => h
theorem LeReps.rep {xs ys : List AV} (h : LeReps xs ys) : ∀ {σ w us}, RepL σ w xs us → RepL σ w ys us := by
  induction h with
  | nil => intro σ w us h; exact h
  | cons h1 h2 ih =>
    intro σ w us h
    simp only [RepL] at h ⊢
    obtain ⟨u, us', rfl, g1, g2⟩ := h
    exact ⟨u, us', rfl, h1 _ _ _ g1, ih g2⟩
theorem FnSpec.toPure {G : Glob} {P : Program} {k : FuncId} {args : List AV} {R : AV → Store → Prop} {r0 : AV} (h : FnSpec G P k args [] R) (hR : ∀ r σ', R r σ' → LeRep r r0) : Pure G P k args r0 :=
  ⟨h.1, fun ρ w vs hS hA => (h.2 ρ w vs hS hA).mono (by
    rintro e w' ⟨v, r, σ', rfl, hr, hS', hE, hrep⟩
    exact ⟨v, r0, [], rfl, ⟨rfl, rfl⟩, hS'.subN (SubN.nil σ'), hE.trans (Ev.of_sub (SubN.nil σ').1 w'), Rep.ev (Ev.of_sub (SubN.nil σ').1 w') _ _ (hR r σ' hr _ _ _ hrep)⟩)⟩
theorem tokF {g : Option Nat} {e : TypeId} {m : Nat} {κ : Store} (hg : ∀ b, g = some b → b ∉ κ.keys) : ∀ b, g = some b → Store.get (κ ++ tokS g e m) b = some (.tok e m) := by
  rintro b rfl
  rw [sget_app (hg b rfl)]
  simp [tokS, Store.get]
section
variable (G : Glob)
end
end Go.Av
end

section
namespace Go.Av
open Go Go.RowKit Go.Proofs
set_option linter.unusedSimpArgs false
set_option linter.unusedVariables false

def U.wt (u : U) : Nat := (u.flat.map fun y => y.head.length + y.words.length).sum
def U.wts (us : List U) : Nat := ((U.flats us).map fun y => y.head.length + y.words.length).sum
theorem U.wt_eq (u : U) : u.wt = u.head.length + u.words.length + U.wts u.kids := by unfold U.wt U.wts; rw [U.flat_eq]; simp
theorem U.wts_nil : U.wts [] = 0 := by unfold U.wts; rw [flats_nil]; rfl
theorem U.wts_cons (u : U) (us : List U) : U.wts (u :: us) = u.wt + U.wts us := by unfold U.wt U.wts; rw [flats_cons]; simp
theorem U.wts_app (a b : List U) : U.wts (a ++ b) = U.wts a + U.wts b := by unfold U.wts; rw [flats_app]; simp
theorem stamps_app (a b : Int) (x : U) : ∀ (l : List U) (n m : Int), U.stamps a b (l ++ [x]) n m = ((U.stamps a b l n m).1 ++ [(U.stamp a b x (U.stamps a b l n m).2.1 (U.stamps a b l n m).2.2).1], (U.stamp a b x (U.stamps a b l n m).2.1 (U.stamps a b l n m).2.2).2)
  | [], n, m => by rw [List.nil_append, U.stamps_cons, U.stamps_nil, U.stamps_nil]; rfl
  | u :: l, n, m => by rw [List.cons_append, U.stamps_cons, stamps_app a b x l, U.stamps_cons]; rfl
theorem stamp_next (a b : Int) : ∀ (u : U) (n m : Int), (U.stamp a b u n m).2.2 = m + u.wt := by
  refine U.ind fun u ih n m => ?_
  have h : ∀ (us : List U), (∀ k ∈ us, ∀ n m, (U.stamp a b k n m).2.2 = m + k.wt) → ∀ n m, (U.stamps a b us n m).2.2 = m + U.wts us := by
    intro us
    induction us with
    | nil => intro _ n m; rw [U.stamps_nil, U.wts_nil]; simp
    | cons x us ihu =>
      intro h n m
      rw [U.stamps_cons]
      simp only
      rw [ihu (fun k hk => h k (by simp [hk])), h x (by simp), U.wts_cons]
      omega
  rw [U.stamp_eq]
  simp only
  rw [h u.kids ih, U.wt_eq]
  omega
theorem stamps_next (a b : Int) (us : List U) (n m : Int) : (U.stamps a b us n m).2.1 = n + (U.flats us).length ∧ (U.stamps a b us n m).2.2 = m + U.wts us ∧ (U.stamps a b us n m).1.length = us.length := by
  refine ⟨(stamps_of a b (fun k _ n m => stamp_ok a b k n m) n m).next, ?_, ?_⟩
  · induction us generalizing n m with
    | nil => rw [U.stamps_nil, U.wts_nil]; simp
    | cons x us ih =>
      rw [U.stamps_cons]
      simp only
      rw [ih, stamp_next, U.wts_cons]
      omega
  · have := congrArg List.length (stamps_of a b (us := us) (fun k _ n m => stamp_ok a b k n m) n m).key
    simpa using this

theorem app_kept2 {e : TypeId} {sz bytes m : Nat} {g : Option Nat} {rows ys : List (List AV)} {K : AV → Store → Prop} {b1 b2 : Nat} {y1 y2 : AObj} (κ : Store) (hb1 : b1 ∉ Store.keys (κ ++ tokS g e m)) (hb2 : b2 ∉ Store.keys ((b1, y1) :: (κ ++ tokS g e m))) (hg : ∀ b, g = some b → b ∉ κ.keys) (hm : m = rows.length * sz) (hnd : κ.keys.Nodup) (hb : (rows.length + ys.length) * bytes ≤ 140737488355328)
    (hk : ∀ g', (∀ b, g' = some b → b ∉ κ.keys) → K (.own g' e sz (rows ++ ys)) (κ ++ tokS g' e ((rows ++ ys).length * sz))) : appX e sz bytes ((b2, y2) :: (b1, y1) :: (κ ++ tokS g e m)) g rows ys K := by
  subst hm
  refine appX_one κ (fun b h => ?_) hb ⟨fun q hq => ?_, fun _ => hnd⟩ hk
  · have h1 := tokF (e := e) (m := rows.length * sz) hg b h
    have hkey : b ∈ Store.keys (κ ++ tokS g e (rows.length * sz)) := List.mem_map.2 ⟨_, Store.get_mem h1, rfl⟩
    have h2 : b1 ≠ b := fun e => hb1 (by rw [e]; exact hkey)
    have h3 : b2 ≠ b := fun e => hb2 (by rw [e]; exact List.mem_cons_of_mem _ hkey)
    simp only [Store.get, if_neg h2, if_neg h3]
    exact h1
  · cases g with
    | none => exact List.mem_cons_of_mem _ (List.mem_cons_of_mem _ (List.mem_append.2 (.inl hq)))
    | some b =>
      refine List.mem_filter.2 ⟨List.mem_cons_of_mem _ (List.mem_cons_of_mem _ (List.mem_append.2 (.inl hq))), ?_⟩
      have : q.1 ≠ b := fun h => hg b rfl (by rw [← h]; exact List.mem_map.2 ⟨q, hq, rfl⟩)
      simpa using this

section
variable (G : Glob)
end
end Go.Av
end

section
namespace Go.Av
open Go Go.RowKit Go.Proofs
set_option linter.unusedSimpArgs false
set_option linter.unusedVariables false

def msr (l : List U) : Nat := (l.map fun x => x.flat.length).sum
theorem msr_nil : msr [] = 0 := rfl
theorem msr_cons (x : U) (l : List U) : msr (x :: l) = x.flat.length + msr l := by simp [msr]
theorem msr_app (a b : List U) : msr (a ++ b) = msr a + msr b := by simp [msr]
theorem msr_len : ∀ l : List U, l.length ≤ msr l
  | [] => Nat.le_refl _
  | x :: l => by have := msr_len l; have := x.flat_pos; rw [msr_cons, List.length_cons]; omega
theorem msr_flats : ∀ us : List U, msr us = (U.flats us).length
  | [] => by rw [flats_nil]; rfl
  | u :: us => by rw [msr_cons, msr_flats us, flats_cons, List.length_append]
theorem msr_filter (p : U → Bool) : ∀ l : List U, msr (l.filter p) ≤ msr l
  | [] => Nat.le_refl _
  | x :: l => by
    have := msr_filter p l
    rw [List.filter_cons]
    split
    · rw [msr_cons, msr_cons]; omega
    · rw [msr_cons]; omega
theorem msr_step (s : Stp) : ∀ l : List U, msr (stepDown l s) ≤ msr l
  | [] => Nat.le_refl _
  | x :: l => by
    have h1 := msr_step s l
    have h2 := msr_filter (fun k => called k s) x.kids
    have h3 : msr x.kids = x.flat.length - 1 := by rw [msr_flats, U.flat_eq]; simp
    have e : stepDown (x :: l) s = x.kids.filter (fun k => called k s) ++ stepDown l s := by simp [stepDown]
    rw [e, msr_app, msr_cons]; omega
theorem flat_sub_len {u x : U} (hx : x ∈ u.flat) : x.flat.length ≤ u.flat.length := by
  revert hx
  refine U.ind (p := fun u => x ∈ u.flat → x.flat.length ≤ u.flat.length) (fun u ih hx => ?_) u
  rw [U.flat_eq] at hx
  rcases List.mem_cons.1 hx with rfl | hx
  · exact Nat.le_refl _
  · obtain ⟨y, hy, hx⟩ := flats_split hx
    have h1 := ih y hy hx
    have h2 := U.flats_mem hy
    rw [U.flat_eq u, List.length_cons]; omega
theorem msr_le {N : Nat} : ∀ {l : List U}, (∀ x ∈ l, x.flat.length ≤ N) → msr l ≤ l.length * N
  | [], _ => Nat.zero_le _
  | x :: l, h => by
    have h1 := msr_le (l := l) fun y hy => h y (by simp [hy])
    have h2 := h x (by simp)
    rw [msr_cons, List.length_cons, Nat.add_mul]; omega
theorem msr_flat (u : U) : msr u.flat ≤ u.flat.length * u.flat.length := msr_le fun x hx => flat_sub_len hx
def found0 (u : U) (s : Stp) : List U := if bookStp s then [u] else u.flat.filter fun x => called x s
theorem found0_msr (u : U) (s : Stp) : msr (found0 u s) ≤ u.flat.length * u.flat.length := by
  unfold found0
  split
  · have := u.flat_pos
    rw [msr_cons, msr_nil]
    exact Nat.le_mul_of_pos_right _ this
  · exact Nat.le_trans (msr_filter _ _) (msr_flat u)
theorem steps_msr : ∀ (r : List Stp) (l : List U), msr (r.foldl stepDown l) ≤ msr l
  | [], l => Nat.le_refl _
  | s :: r, l => Nat.le_trans (steps_msr r (stepDown l s)) (msr_step s l)
theorem found_len (u : U) (p : List Stp) : (found u p).length ≤ u.flat.length * u.flat.length := by
  refine Nat.le_trans (msr_len _) ?_
  unfold found
  split
  · exact Nat.zero_le _
  · split
    · have := u.flat_pos
      rw [msr_cons, msr_nil]
      exact Nat.le_mul_of_pos_right _ this
    · exact Nat.le_trans (steps_msr _ _) (found0_msr u _)
theorem stepDown_snoc (l : List U) (x : U) (s : Stp) : stepDown (l ++ [x]) s = stepDown l s ++ x.kids.filter fun k => called k s := by simp [stepDown]

def zPre (l : List U) (y : Stp) (ks : List U) (j k : Nat) : List U := stepDown (l.take j) y ++ (ks.take k).filter fun x => called x y
theorem zPre_zero (l : List U) (y : Stp) (ks : List U) (j : Nat) : zPre l y ks j 0 = stepDown (l.take j) y := by simp [zPre]
theorem zPre_full (l : List U) (y : Stp) (ks : List U) (j : Nat) : zPre l y ks j ks.length = stepDown (l.take j) y ++ ks.filter fun x => called x y := by simp [zPre]
theorem zPre_len (l : List U) (y : Stp) (ks : List U) (j k : Nat) : (zPre l y ks j k).length = (stepDown (l.take j) y).length + ((ks.take k).filter fun x => called x y).length := by simp [zPre]
theorem zPre_yes {l : List U} {y : Stp} {ks : List U} {j k : Nat} {q : U} {r : List U} (hq : Rest ks k q r) (hc : called q y = true) : zPre l y ks j (k + 1) = zPre l y ks j k ++ [q] := by
  unfold zPre
  rw [hq.take, List.filter_append, List.append_assoc]
  simp [hc]
theorem zPre_not {l : List U} {y : Stp} {ks : List U} {j k : Nat} {q : U} {r : List U} (hq : Rest ks k q r) (hc : called q y = false) : zPre l y ks j (k + 1) = zPre l y ks j k := by
  unfold zPre
  rw [hq.take, List.filter_append]
  simp [hc]

section
variable (G : Glob)
end
end Go.Av
end

section
namespace Go.Av
open Go Go.RowKit Go.Proofs
set_option linter.unusedSimpArgs false
set_option linter.unusedVariables false

def oneAV (u : U) (p : List Stp) : AV := .tup [.agg [.int .i64 (one u p).1.act, .int .i64 (one u p).1.item, .int .i64 (one u p).1.n], .int .i64 (one u p).2]
section
variable (G : Glob)
end
end Go.Av
end

section
namespace Go.Av
open Go Go.RowKit Go.Proofs
set_option linter.unusedSimpArgs false
set_option linter.unusedVariables false

def Dd.cs (d : Dd) : List AV := .int .i64 d.act :: .int .i64 d.item :: .int .i64 d.day :: d.it.cs
def resAV (q : U × Int) : AV := .tup [.agg q.1.cs, .int .i64 q.2]
structure Unit0 (d : Dd) : Prop where
  nodes : ∀ y ∈ d.it.unit.flat, nodeOk y = true
  cnt : d.it.unit.flat.length ≤ 1024
theorem wt_le {u : U} (h : ∀ y ∈ u.flat, nodeOk y = true) : u.wt ≤ u.flat.length * 512 := by
  unfold U.wt
  have : ∀ l : List U, (∀ y ∈ l, nodeOk y = true) → (l.map fun y => y.head.length + y.words.length).sum ≤ l.length * 512 := by
    intro l
    induction l with
    | nil => intro _; simp
    | cons x l ih =>
      intro h
      have h1 := ih fun y hy => h y (by simp [hy])
      have h2 := nodeOk_slim (h x (by simp))
      have h3 := h2.head.1
      have h4 := h2.words.1
      rw [List.map_cons, List.sum_cons, List.length_cons]
      omega
  exact this u.flat h
section
variable (G : Glob)
end
end Go.Av
end
