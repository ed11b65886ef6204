/-
  ENACT, M1: looks into trees: ways, units, parents, addresses' steps.
-/
import Derived.Test.YtcecmifknojgeaaGreatDoorXC4
import Derived.Test.YtcecmifknojgeaaGreatDoorXC5
import Derived.Test.YtcecmifknojgeaaGreatDoorXC6
import Derived.Test.YtcecmifknojgeaaGreatDoorXE12toXL27
import Derived.Test.YtcecmifknojgeaaGreatDoorXL29toXL28
import Derived.Test.YtcecmifknojgeaaGreatDoorShelf
import Derived.Test.YtcecmifknojgeaaGreatDoorXL5toXL8
import Derived.Test.YtcecmifknojgeaaGreatDoorXL9toXL15
import Derived.Lib.Split
import Derived.Lib.SplitLaws
import Derived.Lib.AppendIntMem
import Derived.Test.YtcecmifknojgeaaGreatDoorXL19toXOpI
import Derived.Test.YtcecmifknojgeaaGreatDoorXE6toXE9
section
namespace Go.Av
open Go Go.RowKit Go.Proofs
set_option linter.unusedSimpArgs false
set_option linter.unusedVariables false

def wayAV : List U → AV
  | [] => .nil
  | x :: l => .lst 8 ((x :: l).map U.cs)
theorem wayAV_ne {l : List U} (h : l ≠ []) : wayAV l = .lst 8 (l.map U.cs) := by cases l <;> simp_all [wayAV]
theorem way_len : ∀ (i : Idd) (u : U), (U.way i u).length ≤ u.flat.length := by
  intro i
  refine U.ind fun u ih => ?_
  have h : ∀ us : List U, (∀ k ∈ us, (U.way i k).length ≤ k.flat.length) → (U.ways i us).length ≤ (U.flats us).length := by
    intro us
    induction us with
    | nil => intro _; rw [U.ways_nil]; simp
    | cons k us ihu =>
      intro h
      have h1 := h k (by simp)
      have h2 := ihu fun k hk => h k (by simp [hk])
      rw [U.ways_cons, flats_cons, List.length_append]
      cases hw : U.way i k with
      | nil => simp only [orW]; omega
      | cons x l => rw [hw] at h1; simp only [orW]; omega
  have h1 := h u.kids ih
  rw [U.way_eq, U.flat_eq, List.length_cons]
  split
  · simp
  · cases hw : U.ways i u.kids with
    | nil => simp [consW]
    | cons x l => rw [hw] at h1; simp only [consW, List.length_cons] at *; omega

theorem app_new {e : TypeId} {sz bytes m blk : Nat} {σ : Store} {rows ys : List (List AV)} {K : AV → Store → Prop} (hm : m = rows.length * sz)
    (hn : (rows.length + ys.length) * bytes ≤ 140737488355328) (hk : ∀ g', K (.own g' e sz (rows ++ ys)) (tokS g' e ((rows ++ ys).length * sz))) : appX e sz bytes ((blk, .tok e m) :: σ) (some blk) rows ys K :=
  app_lst (m := m) (fun d h => by injection h with h; subst h; simp [Store.get]) hm rfl hn hk

theorem way_flat {t : Idd} : ∀ u : U, ∀ v ∈ U.way t u, v ∈ u.flat := by
  refine U.ind fun u ih v hv => ?_
  have h : ∀ us : List U, (∀ k ∈ us, ∀ v ∈ U.way t k, v ∈ k.flat) → ∀ v ∈ U.ways t us, v ∈ U.flats us := by
    intro us
    induction us with
    | nil => intro _ v hv; rw [U.ways_nil] at hv; cases hv
    | cons k us ihu =>
      intro h v hv
      rw [U.ways_cons] at hv
      rw [flats_cons, List.mem_append]
      cases hw : U.way t k with
      | nil => rw [hw] at hv; exact .inr (ihu (fun k hk => h k (by simp [hk])) v hv)
      | cons x l => rw [hw] at hv; exact .inl (h k (by simp) v (by rw [hw]; exact hv))
  rw [U.way_eq] at hv
  rw [U.flat_eq]
  split at hv
  · simp only [List.mem_singleton] at hv; subst hv; exact List.mem_cons_self ..
  · cases hw : U.ways t u.kids with
    | nil => rw [hw] at hv; cases hv
    | cons x l =>
      rw [hw] at hv
      rcases List.mem_cons.1 hv with rfl | hv
      · exact List.mem_cons_self ..
      · exact List.mem_cons_of_mem _ (h u.kids ih v (by rw [hw]; exact hv))

section
variable (G : Glob)
theorem f161 (n : Int) : Pure G Tryz.prog 161 [.int .i64 n] (.bool (inR n 0 3)) := by
  refine Pure.w c161 fun R hR => ?_
  unfold s161 r161
  (repeat' (first | (with_reducible (refine gd_case (fun h => ?_) (fun h => ?_)) <;> (try simp only [Da, Db, Dc, Dw, De, Df, Dg, Dh] at h)) | simp -dsimp -implicitDefEqProofs only [EVz, seval, ↓reduceIte, reduceCtorEq, EV6, EV7] | fail))
  (all_goals (((refine RET.eq hR ?_; (refine congrArg AV.bool (Bool.eq_iff_iff.2 ?_); simp only [inR, EVB] at *; omega)))))
theorem f189 (u : U) (s : Stp) : Pure G Tryz.prog 189 [.agg u.cs, .agg [.int .i64 s.kind, .str s.label]] (.bool (called u s)) := by
  refine Pure.w c189 fun R hR => ?_
  unfold s189 r189
  (repeat' (first | (with_reducible (refine gd_case (fun h => ?_) (fun h => ?_)) <;> (try simp only [Da, Db, Dc, Dw, De, Df, Dg, Dh] at h)) | simp -dsimp -implicitDefEqProofs only [EVz, seval, ↓reduceIte, reduceCtorEq, EV6, EV7] | fail))
  (all_goals (first | (refine RET.eq hR ?_; (refine congrArg AV.bool (Bool.eq_iff_iff.2 ?_); simp only [called, EVB] at *; omega)) | (refine RET.eq hR ?_; ((simp_all [called]; done)))))
theorem f22 : ∀ (u : U), u.Tame → Pure G Tryz.prog 22 [.agg u.cs] (.lst 8 (u.flat.map U.cs)) := by
  refine U.ind fun u ih ht => ?_
  have hkl := ht.kids
  have hc := ht.2
  refine Pure.w c22 fun R hR => ?_
  unfold s22 r22
  rw [U.flat_eq] at hR hc
  simp only [List.length_cons] at hc
  (repeat' (first | (with_reducible refine CALL_pure (ih x hx.mem (ht.kid hx.mem)) ?_) | simp -dsimp -implicitDefEqProofs only [EVz, seval, ↓reduceIte, reduceCtorEq, EV6, EV7, hx.yes, hx.le0, hx.lt', hx.get, hx.row, hw] | simp -dsimp -implicitDefEqProofs only [EVz, seval, ↓reduceIte, reduceCtorEq, EV6, EV7, hn] | simp -dsimp -implicitDefEqProofs only [EVz, seval, ↓reduceIte, reduceCtorEq, EV6, EV7] | (with_reducible intro blk hblk; (try (have hnx := hblk; simp only [EVK] at hnx; (have hne := hnx)))) | (refine ⟨[u.cs], rfl, (by simp [U.cs_len]), (by simp), ?_⟩) | (refine W_list (ι := Option Nat × List U) u.kids (fun i r c => u :: U.flats u.kids = c.2 ++ U.flats r) (fun i c => [(1, .ref u.cs), (3, .own c.1 27 8 (c.2.map U.cs)), (4, .int .i64 i)]) (fun i c => tokS c.1 27 (c.2.length * 8)) (some blk, [u]) (by simp) (Weak.rfl' _ _) (by omega) (fun i x r c hok hx hw => ?_) (fun c hok hn => ?_) ) | fail))
  · have h1 := congrArg List.length hok
    simp only [List.length_cons, List.length_append, flats_cons] at h1
    refine app_lst (m' := (c.2 ++ x.flat).length * 8) tok_get (by simp) (by simp) (by simp; omega) (fun gn => ?_)
    exact LK_next hx (gn, c.2 ++ x.flat) (by rw [hok, flats_cons, List.append_assoc]) (by simp only [List.map_append]; exact Weak.rfl' _ _)
  · exact hR _ _ (Or.inl (Or.inr ⟨rfl, by rw [hok]; simp [U.flats]⟩))

theorem f50 (j : Idd) : ∀ (u : U), u.Tame → Pure G Tryz.prog 50 [.agg u.cs, .agg j.cs] (wayAV (U.way j u)) := by
  refine U.ind fun u ih ht => ?_
  have hkl := ht.kids
  have hc := ht.2
  have hwl := way_len j u
  refine Pure.w c50 fun R hR => ?_
  unfold s50 r50
  rw [U.way_eq] at hR hwl
  by_cases h0 : u.id = j
  · have e0 : decide (u.id = j) = true := decide_eq_true h0
    rw [if_pos h0] at hR
    (repeat' (first | simp -dsimp -implicitDefEqProofs only [EVz, seval, ↓reduceIte, reduceCtorEq, EV6, EV7, idd_eq, e0] | (with_reducible intro blk hblk; (try (have hnx := hblk; simp only [EVK] at hnx; (have hne := hnx)))) | (refine ⟨[u.cs], rfl, (by simp [U.cs_len]), (by simp), ?_⟩) | fail))
    exact hR _ _ (Or.inl (Or.inr ⟨rfl, rfl⟩))
  · have e0 : decide (u.id = j) = false := decide_eq_false h0
    rw [if_neg h0] at hR hwl
    simp only [Idd.cs] at ih
    (repeat' (first | simp -dsimp -implicitDefEqProofs only [EVz, seval, ↓reduceIte, reduceCtorEq, EV6, EV7, idd_eq, e0, hx.yes, hx.le0, hx.lt', hx.get, hx.row, hw] | simp -dsimp -implicitDefEqProofs only [EVz, seval, ↓reduceIte, reduceCtorEq, EV6, EV7, idd_eq, e0, hn] | simp -dsimp -implicitDefEqProofs only [EVz, seval, ↓reduceIte, reduceCtorEq, EV6, EV7, idd_eq, e0] | (with_reducible intro blk hblk; (try (have hnx := hblk; simp only [EVK] at hnx; (have hne := hnx)))) | (refine W_list (u.kids) (fun i r (c : Unit) => U.ways j u.kids = U.ways j r) (fun i c => [(2, .ref u.cs), (3, .ref j.cs), (15, .lst 8 (u.kids.map U.cs)), (16, .int .i64 u.kids.length), (17, .int .i64 i)]) (fun _ _ => []) () (by rfl) (Weak.rfl' _ _) (by omega) (fun i x r c hok hx hw => ?_) (fun c hok hn => ?_) ) | fail))
    · have h := ih x hx.mem (ht.kid hx.mem)
      rw [U.ways_cons] at hok
      cases hwx : U.way j x with
      | nil =>
        rw [hwx] at h hok
        simp only [wayAV] at h
        (repeat' (first | (with_reducible refine CALL_pure (h) ?_) | simp -dsimp -implicitDefEqProofs only [EVz, seval, ↓reduceIte, reduceCtorEq, EV6, EV7, hw] | fail))
        exact LK_next hx () hok (Weak.sub (SubN.nil _))
      | cons y l =>
        rw [hwx] at h hok
        simp only [wayAV, List.map_cons] at h
        (repeat' (first | (with_reducible (refine split_case (fun h => ?_) (fun h => ?_)) <;> (try simp only [Da, Db, Dc, Dw, De, Df, Dg, Dh] at h)) | (with_reducible refine CALL_pure (h) ?_) | simp -dsimp -implicitDefEqProofs only [EVz, seval, ↓reduceIte, reduceCtorEq, EV6, EV7, hw] | (with_reducible intro blk hblk; (try (have hnx := hblk; simp only [EVK] at hnx; (have hne := And.intro hnx hne)))) | (refine ⟨[u.cs], rfl, (by simp [U.cs_len]), (by simp), ?_⟩) | fail))
        · have e : consW u (U.ways j u.kids) = u :: y :: l := by rw [hok]; rfl
          rw [e] at hR hwl
          simp only [List.length_cons] at hwl
          refine app_new (by simp) (by simp; omega) (fun gn => ?_)
          exact hR _ _ (Or.inl (Or.inr ⟨rfl, by simp⟩))
        · have := hblk (by simp)
          rw [this] at h
          cases h
    · rw [hok, U.ways_nil] at hR
      exact RET.eq hR rfl

theorem get_last {l : List U} {x y : U} (h : (x :: l).getLast? = some y) : ((x :: l).map U.cs).getD l.length [] = y.cs := by
  have : (x :: l)[l.length]? = some y := by
    rw [List.getLast?_eq_getElem?] at h
    simpa using h
  simp only [List.getD, List.getElem?_map, this, Option.map_some, Option.getD_some]
def fndAV (j : Idd) (u : U) : AV := if (U.way j u).isEmpty then .tup [.agg zU, .bool false] else .tup [.agg (fnd j u).cs, .bool true]
theorem f31 (j : Idd) (u : U) (hs : u.Short) : Pure G Tryz.prog 31 [.agg u.cs, .agg j.cs] (fndAV j u) := by
  have hW := f50 G j u hs.1
  have hwl := way_len j u
  have hc := hs.1.2
  refine Pure.w c31 fun R hR => ?_
  unfold s31 r31
  unfold fndAV at hR
  simp only [Idd.cs] at hW ⊢
  cases hw : U.way j u with
  | nil =>
    rw [hw] at hW hR
    simp only [wayAV] at hW
    (repeat' (first | (with_reducible refine CALL_pure (hW) ?_) | simp -dsimp -implicitDefEqProofs only [EVz, seval, ↓reduceIte, reduceCtorEq, EV6, EV7] | (with_reducible intro blk hblk; (try (have hnx := hblk; simp only [EVK] at hnx; (have hne := hnx)))) | fail))
    exact hR _ _ (Or.inl (Or.inl rfl))
  | cons x l =>
    obtain ⟨y, hy⟩ : ∃ y, (x :: l).getLast? = some y := ⟨_, List.getLast?_eq_some_getLast (by simp)⟩
    have hf : fnd j u = y := fnd_last (by rw [hw]; exact hy)
    have hyu : y.Short := hs.node (way_flat u y (by rw [hw]; exact List.mem_of_getLast? hy))
    have hg := get_last hy
    have hC := CopyR.freeze (f51 G y hyu)
    rw [hw] at hW hR hwl
    rw [hf] at hR
    simp only [wayAV, List.map_cons] at hW hg
    simp only [List.length_cons] at hwl
    have hwp : IntKind.i64.wrap (((l.length + 1 : Nat) : Int) - 1) = (l.length : Int) := by rw [wrap_i64 (by omega) (by omega)]; omega
    (repeat' (first | (with_reducible (refine split_case (fun h => ?_) (fun h => ?_)) <;> (try simp only [Da, Db, Dc, Dw, De, Df, Dg, Dh] at h)) | (with_reducible refine And.intro (by omega) ?_) | (with_reducible refine CALL_pure (hW) ?_) | (with_reducible refine CALL_pure (hC) ?_) | simp -dsimp -implicitDefEqProofs only [EVz, seval, ↓reduceIte, reduceCtorEq, EV6, EV7, hwp, hg] | (with_reducible intro blk hblk; (try (have hnx := hblk; simp only [EVK] at hnx; (have hne := hnx)))) | (exfalso; omega) | fail))
    exact hR _ _ (Or.inl (Or.inl rfl))
end
end Go.Av
end

section
namespace Go.Av
open Go Go.RowKit Go.Proofs
set_option linter.unusedSimpArgs false
set_option linter.unusedVariables false

section
variable (G : Glob)
end
end Go.Av
end

section
namespace Go.Av
open Go Go.RowKit Go.Proofs
set_option linter.unusedSimpArgs false
set_option linter.unusedVariables false
section
variable (G : Glob)
end
end Go.Av
end

section
namespace Go.Av
open Go Go.RowKit Go.Proofs
set_option linter.unusedSimpArgs false
set_option linter.unusedVariables false
section
variable (G : Glob)
end
end Go.Av
end

section
namespace Go.Av
open Go Go.RowKit Go.Proofs
set_option linter.unusedSimpArgs false
set_option linter.unusedVariables false
section
variable (G : Glob)
end
end Go.Av
end

section
namespace Go.Av
open Go Go.RowKit Go.Proofs
set_option linter.unusedSimpArgs false
set_option linter.unusedVariables false
section
variable (G : Glob)
end
end Go.Av
end

section
namespace Go.Av
open Go Go.RowKit
set_option linter.unusedVariables false
set_option linter.unusedSimpArgs false

section
variable {G : Glob} {P : Program} {k : FuncId} {args : List AV} {e : TypeId} {sz : Nat} {rows : List (List AV)}

end

/-! ### rows that point nowhere -/

def AV.flat : AV → Bool
  | .bool _ => true
  | .int _ _ => true
  | .str _ => true
  | _ => false
theorem AV.flat_rep {σ σ' : Store} {w w' : World} : ∀ {x : AV} {u : Value}, x.flat = true → Rep σ w x u → Rep σ' w' x u
  | .bool _, _, _, h => by simp only [Rep] at h ⊢; exact h
  | .int _ _, _, _, h => by simp only [Rep] at h ⊢; exact h
  | .str _, _, _, h => by simp only [Rep] at h ⊢; exact h
section
variable {G : Glob} {P : Program} {k : FuncId} {args : List AV} {e : TypeId} {sz : Nat} {rows : List (List AV)}
end
end Go.Av
end

section
namespace Go.Av
open Go Go.RowKit Go.Proofs
set_option linter.unusedSimpArgs false
set_option linter.unusedVariables false

section
variable (G : Glob)
end
end Go.Av
end

section
namespace Go.Av
open Go Go.RowKit Go.Proofs
set_option linter.unusedSimpArgs false
set_option linter.unusedVariables false

theorem CALL_keep {G : Glob} {P : Program} {f : Value} {args : List AV} {σ : Store} {K : AV → Store → Prop} {t : Tag K} {v : AV}
    (h : VSpec G P f args σ fun r σ' => r = v ∧ σ' = σ) (hk : K v σ) : CALL G P f args σ K t :=
  CALL_spec σ [] h (AVleA.rfl' _) (by rw [List.append_nil]; exact SubN.refl _) (by rintro _ _ ⟨rfl, rfl⟩; rw [List.append_nil]; exact hk)
theorem FnSpec.wk {G : Glob} {P : Program} {k : FuncId} {args : List AV} {σ : Store} {r : AV} {g : List Nat} {ts : List (Nat × Option (Bool × Nat))} {s : SCode} (hk : fnAt P k g = some (ts, s))
    (h : ∀ R, (∀ x σ', AVle x r → SubN σ σ' → RET x σ' R) → W G P s (retQ ts R) (argEnv 0 args) σ ⟨⟩) : FnSpec G P k args σ fun x σ' => x = r ∧ σ' = σ :=
  FnSpec.at hk (h _ fun x σ' hx hs => ⟨r, σ, hx, hs, rfl, rfl⟩)

section
variable (G : Glob)
end
end Go.Av
end

section
namespace Go.Av
open Go Go.RowKit Go.Proofs
set_option linter.unusedSimpArgs false
set_option linter.unusedVariables false

theorem app_rowX {e : TypeId} {sz bytes n m m' : Nat} {τ : Store} (κ : Store) {g : Option Nat} {rows : List (List AV)} {cs : List AV} {K : AV → Store → Prop} {b k1 : Nat} (hτ : τ = κ ++ tokS g e m) (hg : ∀ d, g = some d → d ∉ κ.keys) (hr : rows.length = n) (hm : m = n * sz)
    (hm' : m' = (n + 1) * sz) (hl : cs.length = sz) (hb : b ∉ τ.keys) (hn : (n + 1) * bytes ≤ 140737488355328) (hk : ∀ g', (∀ d, g' = some d → d ∉ κ.keys) → K (.own g' e sz (rows ++ [cs])) (κ ++ tokS g' e m')) :
    appX e sz bytes ((b, .tok e k1) :: τ) g rows [cs] K := by
  obtain ⟨rs, h1, h2, h3, h4⟩ := app_rowK (K := fun _ => K) (k1 := k1) κ hτ hg hr hm hm' hl hb hn hk
  obtain ⟨r, rfl⟩ := List.length_eq_one_iff.1 h1
  simp only [List.flatten_cons, List.flatten_nil, List.append_nil] at h3
  subst h3
  exact h4

section
variable (G : Glob)
theorem v_clo2 {k : Nat} {b c : Nat} {args : List AV} {σ : Store} {R : AV → Store → Prop} (h : FnSpec G Tryz.prog k (args ++ [.sc (.pointer (some ⟨b, 0, none⟩)), .sc (.pointer (some ⟨c, 0, none⟩))]) σ R) : VSpec G Tryz.prog (.func (.func k) #[] #[.pointer (some ⟨b, 0, none⟩), .pointer (some ⟨c, 0, none⟩)]) args σ R :=
  ⟨k, #[], #[.pointer (some ⟨b, 0, none⟩), .pointer (some ⟨c, 0, none⟩)], rfl, by simpa [AV.ofValue, AV.ofOne] using h⟩
end

theorem join_lines : ∀ l : List (List UInt8), l ≠ [] → Lib.join l [10] ++ [10] = l.flatMap fun s => s ++ [10]
  | [], h => absurd rfl h
  | [s], _ => by simp [Lib.join, List.intercalate]
  | s :: t :: l, _ => by
    have ih := join_lines (t :: l) (by simp)
    have e : Lib.join (s :: t :: l) [10] = s ++ ([10] ++ Lib.join (t :: l) [10]) := by simp [Lib.join, List.intercalate]
    rw [e, List.flatMap_cons, ← ih]
    simp

theorem textT_len (u : U) (hc : u.flat.length < 1000000) : (textT u).length ≤ 20001000000 := by
  have h1 := U.lines_len u 0
  have h2 := lines_short u 0
  unfold textT
  have key : ∀ l : List (List UInt8), (∀ s ∈ l, s.length ≤ 20000) → (l.flatMap fun s => s ++ [10]).length ≤ l.length * 20001 := by
    intro l
    induction l with
    | nil => intro _; simp
    | cons s l ih =>
      intro h
      have h3 := h s (by simp)
      have h4 := ih fun t ht => h t (by simp [ht])
      simp only [List.flatMap_cons, List.length_append, List.length_cons, List.length_nil] at *
      omega
  have := key _ h2
  omega

def LnSt (bo be : Nat) (g : Option Nat) (v : AV) (n : Nat) : Store := (be, .cells 230 [.sc (.func (.func 244) #[] #[.pointer (some ⟨bo, 0, none⟩), .pointer (some ⟨be, 0, none⟩)])]) :: (bo, .cells 29 [v]) :: tokS g 9 n
def LnOk (bo be : Nat) (g : Option Nat) (v : AV) (rows : List (List UInt8)) : Prop := (v = .own g 9 1 (rows.map srow) ∨ v = .nil ∧ g = none ∧ rows = []) ∧ (∀ d, g = some d → d ≠ bo ∧ d ≠ be) ∧ be ≠ bo

section
variable (G : Glob) (hG : GOk G)
include hG
set_option maxHeartbeats 2000000 in
theorem f244 : ∀ (u : U) (n : Nat), u.Short → n + u.flat.length ≤ 1000000 → ∀ (bo be : Nat) (g : Option Nat) (v : AV) (rows : List (List UInt8)), LnOk bo be g v rows → rows.length + u.flat.length ≤ 1000000 →
    FnSpec G Tryz.prog 244 [.agg u.cs, .int .i64 n, .sc (.pointer (some ⟨bo, 0, none⟩)), .sc (.pointer (some ⟨be, 0, none⟩))] (LnSt bo be g v rows.length)
      (fun r σ' => r = .tup [] ∧ ∃ g', LnOk bo be g' (.own g' 9 1 ((rows ++ u.lines n).map srow)) (rows ++ u.lines n) ∧ σ' = LnSt bo be g' (.own g' 9 1 ((rows ++ u.lines n).map srow)) (rows ++ u.lines n).length) := by
  refine U.ind fun u ih n hs hn bo be g v rows hok hrl => ?_
  have hkl := hs.1.kids
  have hlen : u.flat.length = 1 + (U.flats u.kids).length := by rw [U.flat_eq, List.length_cons]; omega
  have hwd : IntKind.i64.wrap ((n : Int) + 1) = ((n + 1 : Nat) : Int) := by rw [wrap_i64 (by omega) (by omega)]; omega
  obtain ⟨hv, hg, hbe⟩ := hok
  have hbo : ¬ bo = be := fun e => hbe e.symm
  have hL := f245 G hG u n hs (by omega)
  have hll := U.lines_len u n
  refine FnSpec.w c244 ?_
  unfold s244 r244 LnSt
  rcases hv with rfl | ⟨rfl, rfl, rfl⟩
  · (repeat' (first | (with_reducible refine CALL_pure (hL) ?_) | simp -dsimp -implicitDefEqProofs only [EVz, seval, ↓reduceIte, reduceCtorEq, EV6, EV7, hbe, hbo, hne] | simp -dsimp -implicitDefEqProofs only [EVz, seval, ↓reduceIte, reduceCtorEq, EV6, EV7, hbe, hbo] | (with_reducible intro blk hblk; (try (have hnx := hblk; simp only [EVK] at hnx; (have hne := hnx)))) | (with_reducible refine both_case ?_ ?_) | (with_reducible refine same_case ?_) | (refine ⟨[[.str (lineOf u n)]], rfl, (by simp), rfl, ?_⟩) | (refine app_rowX (n := rows.length) (m' := rows.length + 1) [_, _] (by rfl) (fun d hd => by simp [Store.keys]; exact ⟨(hg d hd).2, (hg d hd).1⟩) (by simp) (by omega) (by omega) rfl (by assumption) (by omega) (fun gn hgn => ?_)) | fail))
    all_goals (
      refine W_list (ι := Option Nat × List (List UInt8)) u.kids (fun i r c => LnOk bo be c.1 (.own c.1 9 1 (c.2.map srow)) c.2 ∧ rows ++ u.lines n = c.2 ++ U.liness (n + 1) r ∧ c.2.length + (U.liness (n + 1) r).length ≤ 1000000)
        (fun i c => [(1, .int .i64 n), (3, .sc (.pointer (some ⟨be, 0, none⟩))), (15, .lst 8 (u.kids.map U.cs)), (16, .int .i64 u.kids.length), (17, .int .i64 i)])
        (fun i c => LnSt bo be c.1 (.own c.1 9 1 (c.2.map srow)) c.2.length) (gn, rows ++ [lineOf u n]) ⟨⟨.inl rfl, fun d hd => by have := hgn d hd; simp [Store.keys] at this; exact ⟨this.2, this.1⟩, hbe⟩, by rw [U.lines_eq]; simp, by have := hll; simp only [U.lines_eq, List.length_cons, List.length_append, List.length_nil] at *; omega⟩
        (by simp only [LnSt, List.map_append, List.map_cons, List.map_nil, List.length_append, List.length_cons, List.length_nil, srow]; exact Weak.rfl' _ _) (by omega) (fun i x r c hok hx hw => ?_) (fun c hok hn => ?_)
      · obtain ⟨o1, o2, o3⟩ := hok
        rw [U.liness_cons] at o2 o3
        rw [List.length_append] at o3
        have hxl := U.lines_len x (n + 1)
        have hmm := U.flats_mem hx.mem
        unfold LnSt
        (try simp -dsimp -implicitDefEqProofs only [EVz, seval, ↓reduceIte, reduceCtorEq, EV6, EV7, hx.yes, hx.le0, hx.lt', hx.row, hw, hwd, hbe, hbo])
        intro b7 hb7
        have hb7' : ¬ b7 = be := by simp only [EVK] at hb7; exact hb7.1
        (try simp -dsimp -implicitDefEqProofs only [EVz, seval, ↓reduceIte, reduceCtorEq, EV6, EV7, hx.yes, hx.le0, hx.lt', hx.row, hw, hwd, hbe, hbo, hb7'])
        refine CALL_spec (LnSt bo be c.1 (.own c.1 9 1 (c.2.map srow)) c.2.length) [(b7, .cells 27 x.cs)] (v_clo2 G (ih x hx.mem (n + 1) (hs.kid hx.mem) (by omega) bo be c.1 _ c.2 o1 (by omega))) (AVleA.rfl' _) SubN.comm1 ?_
        rintro r' σ2 ⟨rfl, g', hk, rfl⟩
        (try simp -dsimp -implicitDefEqProofs only [EVz, seval, ↓reduceIte, reduceCtorEq, EV6, EV7, hw])
        refine LK_next hx (g', c.2 ++ x.lines (n + 1)) ⟨hk, by have := o2; simp only [List.append_assoc, List.nil_append] at this ⊢; exact this, by simp only [List.length_append]; omega⟩ (Weak.sub SubN.left)
      · obtain ⟨o1, o2, o3⟩ := hok
        rw [U.liness, List.append_nil] at o2
        (try simp -dsimp -implicitDefEqProofs only [EVz, seval, ↓reduceIte, reduceCtorEq, EV6, EV7, hn])
        (try rw [List.nil_append] at o2)
        exact RET.mk (SubN.refl _) ⟨rfl, c.1, by rw [o2]; exact o1, by rw [o2]; rfl⟩)
  · (repeat' (first | (with_reducible refine CALL_pure (hL) ?_) | simp -dsimp -implicitDefEqProofs only [EVz, seval, ↓reduceIte, reduceCtorEq, EV6, EV7, hbe, hbo, hne] | simp -dsimp -implicitDefEqProofs only [EVz, seval, ↓reduceIte, reduceCtorEq, EV6, EV7, hbe, hbo] | (with_reducible intro blk hblk; (try (have hnx := hblk; simp only [EVK] at hnx; (have hne := hnx)))) | (with_reducible refine both_case ?_ ?_) | (with_reducible refine same_case ?_) | (refine ⟨[[.str (lineOf u n)]], rfl, (by simp), rfl, ?_⟩) | (refine app_rowX (n := 0) (m' := 1) [_, _] (by rfl) (by simp) (by simp) (by omega) (by omega) rfl (by assumption) (by omega) (fun gn hgn => ?_)) | fail))
    all_goals (
      refine W_list (ι := Option Nat × List (List UInt8)) u.kids (fun i r c => LnOk bo be c.1 (.own c.1 9 1 (c.2.map srow)) c.2 ∧ [] ++ u.lines n = c.2 ++ U.liness (n + 1) r ∧ c.2.length + (U.liness (n + 1) r).length ≤ 1000000)
        (fun i c => [(1, .int .i64 n), (3, .sc (.pointer (some ⟨be, 0, none⟩))), (15, .lst 8 (u.kids.map U.cs)), (16, .int .i64 u.kids.length), (17, .int .i64 i)])
        (fun i c => LnSt bo be c.1 (.own c.1 9 1 (c.2.map srow)) c.2.length) (gn, [lineOf u n]) ⟨⟨.inl rfl, fun d hd => by have := hgn d hd; simp [Store.keys] at this; exact ⟨this.2, this.1⟩, hbe⟩, by rw [U.lines_eq]; simp, by have := hll; simp only [U.lines_eq, List.length_cons, List.length_append, List.length_nil] at *; omega⟩
        (by simp only [LnSt, List.map_append, List.map_cons, List.map_nil, List.length_append, List.length_cons, List.length_nil, srow]; exact Weak.rfl' _ _) (by omega) (fun i x r c hok hx hw => ?_) (fun c hok hn => ?_)
      · obtain ⟨o1, o2, o3⟩ := hok
        rw [U.liness_cons] at o2 o3
        rw [List.length_append] at o3
        have hxl := U.lines_len x (n + 1)
        have hmm := U.flats_mem hx.mem
        unfold LnSt
        (try simp -dsimp -implicitDefEqProofs only [EVz, seval, ↓reduceIte, reduceCtorEq, EV6, EV7, hx.yes, hx.le0, hx.lt', hx.row, hw, hwd, hbe, hbo])
        intro b7 hb7
        have hb7' : ¬ b7 = be := by simp only [EVK] at hb7; exact hb7.1
        (try simp -dsimp -implicitDefEqProofs only [EVz, seval, ↓reduceIte, reduceCtorEq, EV6, EV7, hx.yes, hx.le0, hx.lt', hx.row, hw, hwd, hbe, hbo, hb7'])
        refine CALL_spec (LnSt bo be c.1 (.own c.1 9 1 (c.2.map srow)) c.2.length) [(b7, .cells 27 x.cs)] (v_clo2 G (ih x hx.mem (n + 1) (hs.kid hx.mem) (by omega) bo be c.1 _ c.2 o1 (by omega))) (AVleA.rfl' _) SubN.comm1 ?_
        rintro r' σ2 ⟨rfl, g', hk, rfl⟩
        (try simp -dsimp -implicitDefEqProofs only [EVz, seval, ↓reduceIte, reduceCtorEq, EV6, EV7, hw])
        refine LK_next hx (g', c.2 ++ x.lines (n + 1)) ⟨hk, by have := o2; simp only [List.append_assoc, List.nil_append] at this ⊢; exact this, by simp only [List.length_append]; omega⟩ (Weak.sub SubN.left)
      · obtain ⟨o1, o2, o3⟩ := hok
        rw [U.liness, List.append_nil] at o2
        (try simp -dsimp -implicitDefEqProofs only [EVz, seval, ↓reduceIte, reduceCtorEq, EV6, EV7, hn])
        (try rw [List.nil_append] at o2)
        exact RET.mk (SubN.refl _) ⟨rfl, c.1, by rw [o2]; exact o1, by rw [o2]; rfl⟩)

theorem f212 (u : U) (hs : u.Short) : FnSpec G Tryz.prog 212 [.agg u.cs] [] (fun r σ' => (shapeOk u = false ∧ r = .nil) ∨ (shapeOk u = true ∧ ∃ g, r = .own g 9 1 ((u.lines 0).map srow))) := by
  have hS := f243 G u hs
  have hV := f34 G hG u.strip (strip_short hs)
  rw [tree_strip] at hV
  have hc := hs.1.2
  refine FnSpec.w c212 ?_
  unfold s212 r212
  cases hsh : shapeOk u with
  | false =>
    rw [hsh] at hV
    (repeat' (first | (with_reducible refine CALL_pure (hS) ?_) | (with_reducible refine CALL_pure (hV) ?_) | simp -dsimp -implicitDefEqProofs only [EVz, seval, ↓reduceIte, reduceCtorEq, EV6, EV7] | fail))
    exact RET.mk (SubN.nil _) (by simp)
  | true =>
    rw [hsh] at hV
    (try simp -dsimp -implicitDefEqProofs only [EVz, seval, ↓reduceIte, reduceCtorEq, EV6, EV7, hS])
    refine CALL_pure hS ?_
    (try simp -dsimp -implicitDefEqProofs only [EVz, seval, ↓reduceIte, reduceCtorEq, EV6, EV7])
    refine CALL_pure hV ?_
    (try simp -dsimp -implicitDefEqProofs only [EVz, seval, ↓reduceIte, reduceCtorEq, EV6, EV7])
    intro bo hbo be hbe
    have h1 : ¬ be = bo := by simp only [EVK] at hbe; exact hbe
    have h2 : ¬ bo = be := fun e => h1 e.symm
    (try simp -dsimp -implicitDefEqProofs only [EVz, seval, ↓reduceIte, reduceCtorEq, EV6, EV7, h1, h2])
    have hL := f244 G hG u 0 hs (by omega) bo be none .nil [] ⟨.inr ⟨rfl, rfl, rfl⟩, by simp, h1⟩ (by simp; omega)
    refine CALL_spec (LnSt bo be none .nil 0) [] (v_clo2 G hL) (AVleA.rfl' _) (by rw [List.append_nil]; exact SubN.refl _) ?_
    rintro r σ' ⟨rfl, g', _, rfl⟩
    unfold LnSt
    (try simp -dsimp -implicitDefEqProofs only [EVz, seval, ↓reduceIte, reduceCtorEq, EV6, EV7, h1, h2])
    exact RET.mk (SubN.nil _) (by simp)

theorem f178 (u : U) (hs : u.Short) : Pure G Tryz.prog 178 [.agg u.cs] (.tup [.str (textOf u).1, .int .i64 (textOf u).2]) := by
  have hL := f212 G hG u hs
  have hc := hs.1.2
  have hll := U.lines_len u 0
  have hpos : 1 ≤ (u.lines 0).length := by rw [hll]; exact u.flat_pos
  have hj := join_lines (u.lines 0) (by intro e; rw [e] at hpos; simp at hpos)
  have htl := textT_len u hc
  have hjt : Lib.join (u.lines 0) [10] ++ [10] = textT u := hj
  have hjl : (Lib.join (u.lines 0) [10]).length + 1 = (textT u).length := by rw [← hjt]; simp
  refine Pure.w c178 fun R hR => ?_
  unfold s178 r178
  (try simp -dsimp -implicitDefEqProofs only [EVz, seval, ↓reduceIte, reduceCtorEq, EV6, EV7])
  refine CALL_spec [] [] hL.v (AVleA.rfl' _) (SubN.refl _) ?_
  rintro r σ' (⟨hsh, rfl⟩ | ⟨hsh, g, rfl⟩)
  · have e2 : textOf u = ([], 1) := by unfold textOf; rw [hsh]; rfl
    rw [e2] at hR
    (try simp -dsimp -implicitDefEqProofs only [EVz, seval, ↓reduceIte, reduceCtorEq, EV6, EV7])
    exact RET.eq hR rfl
  · have e2 : textOf u = if (16384 : Int) < (textT u).length then ([], 6) else (textT u, 0) := by unfold textOf; rw [hsh]; rfl
    rw [e2] at hR
    have hz : decide (((u.lines 0).length : Int) = 0) = false := decide_eq_false (by omega)
    have hJ := f213 G g (u.lines 0) [10] (by omega) (by omega)
    (repeat' (first | (with_reducible (refine split_case (fun h => ?_) (fun h => ?_)) <;> (try simp only [Da, Db, Dc, Dw, De, Df, Dg, Dh] at h)) | (with_reducible refine And.intro (by omega) ?_) | (with_reducible refine CALL_pure (hJ) ?_) | simp -dsimp -implicitDefEqProofs only [EVz, seval, ↓reduceIte, reduceCtorEq, EV6, EV7, hz, hjt, List.length_cons, List.length_nil] | fail))
    · rw [if_pos (by omega)] at hR
      exact RET.eq hR rfl
    · rw [if_neg (by omega)] at hR
      exact RET.eq hR rfl
end
end Go.Av
end

section
namespace Go.Av
open Go Go.RowKit Go.MapKept
set_option linter.unusedVariables false
set_option linter.unusedSimpArgs false

section
variable {G : Glob} {P : Program} {env : Env} {σ : Store} {K : AV → Store → Prop} {κ : Type} [DecidableEq κ] {kT : TypeId} {val : κ → Value}

theorem find_int (k : Int) : ∀ (l : List Int) (ents : List MapEntry) (i : Nat), ents.map (·.key) = l.map (fun n => Value.int .i64 n) →
    Instr.findNow (.int .i64) (.int .i64 k) ents i = some ((((l.zip ents).zipIdx i).find? fun q => decide (q.1.1 = k)).map fun q => (q.2, q.1.2.val))
  | [], [], i, _ => by simp [Instr.findNow]
  | [], e :: es, i, h => by simp at h
  | b :: l, [], i, h => by simp at h
  | b :: l, e :: es, i, h => by
    simp only [List.map_cons, List.cons.injEq] at h
    simp only [Instr.findNow, h.1, Instr.sameNow, if_true, List.zip_cons_cons, List.zipIdx_cons, List.find?_cons]
    by_cases hb : k = b
    · subst hb; simp
    · have h1 : (k == b) = false := by simpa using hb
      have h2 : decide (b = k) = false := by simp; exact fun e => hb e.symm
      simp only [h1, h2]
      exact find_int k l es (i + 1) h.2

theorem mapK_int (hu : P.underlying kT = some (.int .i64)) : MapK P kT (fun n : Int => Value.int .i64 n) where
  ck em k w := run_checkKey hu (by simp [IsKey]) em 9999
  find k l ents w he := run_findKey hu (find_int k l ents 0 he)
  stays k w := run_keyThatStays (d := .int .i64) (by simp [IsKey])

theorem RAW_insert (M : MapK P kT val) {xT eT : TypeId} {x ix y : Operand} {b : Nat} {l : List (κ × AV)} {k : κ} {yv : AV} (hx : (SOpd.of x).eval G env = .sc (.map (some b)))
    (hix : ∀ τ w v, Rep τ w ((SOpd.of ix).eval G env) v → v = val k) (hy : (SOpd.of y).eval G env = yv) (hu : P.underlying xT = some (.map kT eT)) (hg : σ.get b = some (.map (mrows val l)))
    (hk : K undefAV (σ.set b (.map (mrows val (mputs k yv l))))) : RAW G P (.insert xT x ix y) env σ K ⟨⟩ := by
  intro ρ w a o ho hS hE
  have h := RAW_mapUpdate (K := K) M hx hix hy hu hg hk ρ w a { o with op := .mapUpdate xT x ix y } rfl hS hE
  have e : execOp a.eval { o with op := .mapUpdate xT x ix y } = execOp a.eval o := by simp [execOp, ho]
  rwa [e] at h
end
end Go.Av
end
