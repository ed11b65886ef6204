/-
  LINT, 44: the law LintItems, walked.
-/
import Derived.Test.YtedcgagodcfgmaaGreatDoorXP4toXL43
import Derived.Test.YtedcgagodcfgmaaGreatDoorXL54toXP3
import Derived.Test.YtedcgagodcfgmaaGreatDoorXL20toXOpI
section
namespace Go.Av
open Go Go.RowKit Go.Proofs
set_option linter.unusedSimpArgs false
set_option linter.unusedVariables false

def zU0 : U := ⟨⟨0, 0, 0⟩, 0, [], [], [], []⟩
theorem zU0_short : zU0.Short := by
  have e : zU0.flat = [zU0] := by rw [U.flat_eq]; show _ :: U.flats [] = _; rw [flats_nil]
  have hf : zU0.fit := (U.fit_eq _).2 ⟨by decide, ⟨by decide, by simp [zU0]⟩, ⟨by decide, by simp [zU0]⟩, by decide, by simp [zU0]⟩
  refine ⟨⟨hf, by rw [e]; simp⟩, fun x hx => ?_⟩
  rw [e, List.mem_singleton] at hx
  subst hx
  refine ⟨by decide, by decide, by decide, by simp [zU0], by simp [zU0]⟩
def exA : Itm := { iz with kind := 5, at_ := [⟨2, [53]⟩], label := [53] }
def exB : Itm := { iz with kind := 2, at_ := [⟨2, [53]⟩], old := [[97]], new := [[97]] }
theorem exA_short : exA.Shorts := by
  refine (Itm.Shorts_eq _).2 ⟨⟨(Itm.fit_eq _).2 ⟨by decide, by decide, zU0_short.1.1, by decide, by decide, by decide, by simp [exA, iz]⟩, zU0_short, by decide, by decide, by simp [exA, iz], by simp [exA, iz], by decide, by decide, by decide, by decide, by decide, by decide⟩, by simp [exA, iz]⟩
theorem exB_short : exB.Shorts := by
  refine (Itm.Shorts_eq _).2 ⟨⟨(Itm.fit_eq _).2 ⟨by decide, by decide, zU0_short.1.1, by decide, by decide, by decide, by simp [exB, iz]⟩, zU0_short, by decide, by decide, by simp [exB, iz], by simp [exB, iz], by decide, by decide, by decide, by decide, by decide, by decide⟩, by simp [exB, iz]⟩
theorem exA_finds : exA.finds = [fw 10 tOwnLabel] := by decide +kernel
theorem exB_finds : exB.finds = [fw 11 tNoEffect] := by decide +kernel

theorem Pure.le {G : Glob} {P : Program} {k : FuncId} {args args' : List AV} {r : AV} (h : Pure G P k args' r) (ha : AVleA args args') : Pure G P k args r := ⟨h.1, fun ρ w vs hS hA => h.2 ρ w vs hS (ha.rep hA)⟩
def exCells (k : Int) (a o w : AV) (l : List UInt8) : List AV := [.int .i64 k, a, .nil, .int .i64 0, .int .i64 0, .int .i64 0, .int .i64 0, .int .i64 0, .int .i64 0, .str [], .nil, .nil, .nil, o, w, .str l, .str [], .int .i64 0, .int .i64 0, .str [], .int .i64 0, .int .i64 0, .int .i64 0, .str [], .nil]

section
variable (G : Glob) (hG : GOk G)
include hG

set_option maxRecDepth 100000 in
theorem f10 : Pure G Tryz.prog 10 [] (.bool true) := by
  have hA := f12 G hG exA exA_short
  have hB := f12 G hG exB exB_short
  have hC := check_zero G
  rw [exA_finds] at hA
  rw [exB_finds] at hB
  simp only [List.map_cons, List.map_nil, fw_cs] at hA hB
  unfold zActCs at hC
  have hA' : ∀ b, Pure G Tryz.prog 12 [.agg (exCells 5 (.own (some b) 64 2 [[.int .i64 2, .str [53]]]) .nil .nil [53])] _ := fun b => Pure.le hA ⟨.inr (by rw [Itm.cs_eq]; simp [AVleL, AVle1, exA, iz, Stp.cs, exCells]), trivial⟩
  have hB' : ∀ b c d, Pure G Tryz.prog 12 [.agg (exCells 2 (.own (some b) 64 2 [[.int .i64 2, .str [53]]]) (.own (some c) 9 1 [[.str [97]]]) (.own (some d) 9 1 [[.str [97]]]) [])] _ := fun b c d => Pure.le hB ⟨.inr (by rw [Itm.cs_eq]; simp [AVleL, AVle1, exB, iz, Stp.cs, srow, exCells]), trivial⟩
  unfold exCells at hA' hB'
  clear hA hB
  refine Pure.w c10 fun R hR => ?_
  unfold s10 r10
  (repeat' (first | (with_reducible (first | refine split_case (fun h => ?_) (fun h => ?_) | refine gd_case (fun h => ?_) (fun h => ?_) | refine pick_case (fun h => ?_) (fun h => ?_)) <;> (try simp only [Da, Db, Dc, Dd, De, Df, Dg, Dh] at h)) | (with_reducible refine And.intro (by omega) ?_) | (with_reducible refine CALL_pure (hA' _) ?_) | (with_reducible refine CALL_pure (hB' _ _ _) ?_) | (with_reducible refine CALL_pure (hC) ?_) | simp -dsimp -implicitDefEqProofs only [EV1, EV2, EV3, EV4, EV5, seval, ↓reduceIte, reduceCtorEq, eq_self, Option.map_some, decide_true, decide_false, EV6, EV7, tOwnLabel, tNoEffect] | (with_reducible intro blk hblk; (try (have hnx := hblk; simp only [EVK] at hnx; first | (have hne := And.intro hnx hne) | (have hne := hnx)))) | (with_reducible refine both_case ?_ ?_) | (with_reducible refine same_case ?_) | (refine ⟨[[.int .i64 2, .str [53]]], rfl, (by simp), rfl, ?_⟩) | (refine ⟨[[.str [97]]], rfl, (by simp), rfl, ?_⟩) | (exfalso; omega)))
  all_goals (exact RET.eq hR rfl)

end
end Go.Av
end

section
namespace Go.Av
open Go Go.RowKit Go.Proofs
set_option linter.unusedSimpArgs false
set_option linter.unusedVariables false

theorem chk_len {a : Ac} (h : a.items.length ≤ 40) : a.chk.length ≤ 480 := by
  unfold Ac.chk
  split
  · have := chkFrom_len a a.items 0; omega
  · simp
theorem few_act {a : Ac} (hf : ∀ x ∈ a.items, x.fit) (h : a.few = true) : a.items.length ≤ 40 ∧ a.title.length ≤ 300 ∧ a.start.event.length ≤ 100 ∧ ∀ x ∈ a.items, x.Shorts := by
  unfold Ac.few at h
  simp only [Bool.and_eq_true, decide_eq_true_eq] at h
  exact ⟨h.1.1.1, h.1.1.2, h.1.2, fun x hx => few_shorts x (hf x hx) (List.all_eq_true.1 h.2 x hx)⟩
section
variable (G : Glob) (hG : GOk G) (hG2 : GOk2 G)
include hG hG2
end
end Go.Av
end

section
namespace Go.Av
open Go Go.RowKit Go.Proofs
set_option linter.unusedSimpArgs false
set_option linter.unusedVariables false

theorem ownF_am (a : Ac) (x : Itm) (h : x.kind ≤ 6) : ownF a x = [] := by
  have e : ownB a x = false := by
    unfold ownB
    rw [decide_eq_false (show ¬x.kind = 7 by omega), decide_eq_false (show ¬x.kind = 8 by omega), decide_eq_false (show ¬x.kind = 9 by omega), decide_eq_false (show ¬x.kind = 11 by omega)]
    rfl
  unfold ownF
  rw [e]
  rfl
theorem chkFrom_append (a : Ac) : ∀ (l m : List Itm) (i : Nat), a.chkFrom i (l ++ m) = a.chkFrom i l ++ a.chkFrom (i + l.length) m
  | [], m, i => by simp [Ac.chkFrom]
  | x :: l, m, i => by
    simp only [List.cons_append, Ac.chkFrom, List.append_assoc, List.length_cons]
    rw [chkFrom_append a l m (i + 1), show i + (l.length + 1) = i + 1 + l.length by omega]
def Ac.more (a : Ac) (x : Itm) : Ac := { a with items := a.items ++ [x] }
theorem fnds_more (a : Ac) (x y : Itm) (i : Nat) (hi : i ≤ a.items.length) (hy : y.kind ≤ 6) : (a.more x).fnds i y = a.fnds i y := by
  unfold Ac.fnds
  rw [ownF_am _ _ hy, ownF_am _ _ hy]
  unfold dupB Ac.more
  simp only
  rw [List.take_append_of_le_length hi]
theorem chkFrom_more (a : Ac) (x : Itm) : ∀ (l : List Itm) (i : Nat), i + l.length ≤ a.items.length → (∀ y ∈ l, y.kind ≤ 6) → (a.more x).chkFrom i l = a.chkFrom i l
  | [], _, _, _ => rfl
  | y :: l, i, hi, hk => by
    simp only [List.length_cons] at hi
    simp only [Ac.chkFrom]
    rw [fnds_more a x y i (by omega) (hk y (List.mem_cons_self ..)), chkFrom_more a x l (i + 1) (by omega) fun z hz => hk z (List.mem_cons_of_mem _ hz)]
theorem more_may (a : Ac) (x : Itm) (h : a.may = true) (hx : x ∈ a.items) (hl : a.items.length ≤ 20) : (a.more x).may = true := by
  unfold Ac.may Ac.more at *
  simp only [Bool.and_eq_true, decide_eq_true_eq, List.all_append, List.length_append, List.length_cons, List.length_nil, List.all_cons, List.all_nil, and_true] at *
  exact ⟨⟨h.1.1, by omega⟩, h.2, List.all_eq_true.1 h.2 x hx⟩
theorem chk_more (a : Ac) (x : Itm) (h : a.may = true) (hx : x ∈ a.items) (hl : a.items.length ≤ 20) (hk : ∀ y ∈ a.items, y.kind ≤ 6) :
    (a.more x).chk = a.chk ++ (x.finds.map (Fnd.put a.items.length) ++ [(fw 5 tDup).put a.items.length]) := by
  unfold Ac.chk
  rw [more_may a x h hx hl, h, if_pos rfl, if_pos rfl]
  have e : (a.more x).items = a.items ++ [x] := rfl
  rw [e, chkFrom_append, chkFrom_more a x a.items 0 (by omega) hk]
  congr 1
  have hd : dupB (a.more x) a.items.length x = true := by
    unfold dupB Ac.more
    simp only
    rw [List.take_left']
    · exact List.any_eq_true.2 ⟨x, hx, by simp⟩
    · rfl
  simp only [Ac.chkFrom, Ac.fnds, Nat.zero_add]
  rw [ownF_am _ _ (hk x hx), hd]
  simp [optF]
end Go.Av
end

section
namespace Go.Av
open Go Go.RowKit Go.Proofs
set_option linter.unusedSimpArgs false
set_option linter.unusedVariables false

theorem TR_join {G : Glob} {P : Program} {ι : Type} {Q : Exit → Env → Store → Prop} {ks : List Nat} {t : DT} {env : Env} {σ : Store} {tg} (st : ι → Env) (ss : ι → Store) (hb : ∀ j, Q .normal (st j) (ss j))
    (ha : ∀ K1 : Env → Store → Prop, (∀ j, K1 (st j) (ss j)) → TR G P t env σ (fun env σ => ∃ env' σ', Weak G (env.keep ks) σ env' σ' ∧ K1 env' σ') ⟨⟩) : TR G P t env σ (fun env σ => ∃ env' σ', Weak G (env.keep ks) σ env' σ' ∧ Q .normal env' σ') tg := ha (Q .normal) hb

theorem app_from {e : TypeId} {sz bytes : Nat} {σ : Store} {blk : Nat} {ys : List (List AV)} {K : AV → Store → Prop} (κ : Store) (hget : σ.get blk = some (.tok e 0)) (hm : ∀ q ∈ κ, q ∈ σ) (hno : blk ∉ κ.keys) (hnd : κ.keys.Nodup) (hb : ys.length * bytes ≤ 140737488355328)
    (hk : ∀ g', (∀ b, g' = some b → b ∉ κ.keys) → K (.own g' e sz ys) (κ ++ tokS g' e (ys.length * sz))) : appX e sz bytes σ (some blk) [] ys K := by
  refine appX_one κ (fun b h => ?_) (by simpa using hb) ⟨fun q hq => ?_, fun _ => hnd⟩ (fun g' hg' => by simpa using hk g' hg')
  · injection h with h
    subst h
    simpa using hget
  · refine List.mem_filter.2 ⟨hm q hq, ?_⟩
    have : q.1 ≠ blk := fun h => hno (by rw [← h]; exact List.mem_map.2 ⟨q, hq, rfl⟩)
    simpa using this
theorem tok_app {g : Option Nat} {e : TypeId} {m : Nat} {κ : Store} (hg : ∀ b, g = some b → b ∉ κ.keys) : ∀ b, g = some b → Store.get (κ ++ tokS g e m) b = some (.tok e m) := by
  rintro b rfl
  rw [sget_app (hg b rfl)]
  simp [tokS, Store.get]
theorem app_then {e : TypeId} {sz bytes m : Nat} {g : Option Nat} {rows ys : List (List AV)} {K : AV → Store → Prop} (κ : Store) (hg : ∀ b, g = some b → b ∉ κ.keys) (hm : m = rows.length * sz) (hnd : κ.keys.Nodup) (hb : (rows.length + ys.length) * bytes ≤ 140737488355328)
    (hk : ∀ g', K (.own g' e sz (rows ++ ys)) (κ ++ tokS g' e ((rows ++ ys).length * sz))) : appX e sz bytes (κ ++ tokS g e m) g rows ys K := by
  subst hm
  refine appX_one κ (tok_app hg) hb ⟨fun q hq => ?_, fun _ => hnd⟩ (fun g' _ => hk g')
  cases g with
  | none => exact List.mem_append.2 (.inl hq)
  | some b =>
    refine List.mem_filter.2 ⟨List.mem_append.2 (.inl hq), ?_⟩
    have : q.1 ≠ b := fun h => hg b rfl (by rw [← h]; exact List.mem_map.2 ⟨q, hq, rfl⟩)
    simpa using this
theorem app_then1 {e : TypeId} {sz bytes m : Nat} {g : Option Nat} {rows ys : List (List AV)} {K : AV → Store → Prop} {b' : Nat} {y : AObj} (κ : Store) (hb' : b' ∉ Store.keys (κ ++ tokS g e m)) (hg : ∀ b, g = some b → b ∉ κ.keys) (hm : m = rows.length * sz) (hnd : κ.keys.Nodup) (hb : (rows.length + ys.length) * bytes ≤ 140737488355328)
    (hk : ∀ g', K (.own g' e sz (rows ++ ys)) (κ ++ tokS g' e ((rows ++ ys).length * sz))) : appX e sz bytes ((b', y) :: (κ ++ tokS g e m)) g rows ys K := by
  subst hm
  refine appX_one κ (fun b h => ?_) hb ⟨fun q hq => ?_, fun _ => hnd⟩ (fun g' _ => hk g')
  · have h1 := tok_app (e := e) (m := rows.length * sz) hg b h
    have h2 : b' ≠ b := by
      rintro rfl
      exact hb' (List.mem_map.2 ⟨_, Store.get_mem h1, rfl⟩)
    simp only [Store.get, if_neg h2]
    exact h1
  · cases g with
    | none => exact List.mem_cons_of_mem _ (List.mem_append.2 (.inl hq))
    | some b =>
      refine List.mem_filter.2 ⟨List.mem_cons_of_mem _ (List.mem_append.2 (.inl hq)), ?_⟩
      have : q.1 ≠ b := fun h => hg b rfl (by rw [← h]; exact List.mem_map.2 ⟨q, hq, rfl⟩)
      simpa using this

section
variable (G : Glob) (hG : GOk G) (hG2 : GOk2 G)
include hG hG2
set_option maxHeartbeats 1000000 in
set_option maxRecDepth 100000 in
theorem f5 (a : Ac) (hl : a.items.length < 1000000000000000000) (hf : ∀ x ∈ a.items, x.fit) : Pure G Tryz.prog 5 [.agg a.cs] (.bool true) := by
  have hF := f14 G a (by omega) hf
  have hW := f10 G hG
  refine Pure.w c5 fun R hR => ?_
  unfold s5 r5
  cases hfw : a.few with
  | false =>
    rw [hfw] at hF
    unfold Ac.cs at hF ⊢
    (repeat' (first | (with_reducible refine CALL_pure (hF) ?_) | (with_reducible refine CALL_pure (hW) ?_) | simp -dsimp -implicitDefEqProofs only [EV1, EV2, EV3, EV4, EV5, seval, ↓reduceIte, reduceCtorEq, eq_self, Option.map_some, decide_true, decide_false, EV6, EV7]))
    exact RET.eq hR rfl
  | true =>
    obtain ⟨h40, h300, h100, hs⟩ := few_act hf hfw
    rw [hfw] at hF
    have hM := f17 G a (by omega) (by omega) hs
    cases hmay : a.may with
    | false =>
      rw [hmay] at hM
      unfold Ac.cs at hF hM ⊢
      (repeat' (first | (with_reducible refine CALL_pure (hF) ?_) | (with_reducible refine CALL_pure (hW) ?_) | (with_reducible refine CALL_pure (hM) ?_) | simp -dsimp -implicitDefEqProofs only [EV1, EV2, EV3, EV4, EV5, seval, ↓reduceIte, reduceCtorEq, eq_self, Option.map_some, decide_true, decide_false, EV6, EV7]))
      exact RET.eq hR rfl
    | true =>
      rw [hmay] at hM
      by_cases h0 : a.items.length = 0
      · have e0 : decide ((a.items.length : Int) = 0) = true := decide_eq_true (by omega)
        unfold Ac.cs at hF hM ⊢
        (repeat' (first | (with_reducible refine CALL_pure (hF) ?_) | (with_reducible refine CALL_pure (hW) ?_) | (with_reducible refine CALL_pure (hM) ?_) | simp -dsimp -implicitDefEqProofs only [EV1, EV2, EV3, EV4, EV5, seval, ↓reduceIte, reduceCtorEq, eq_self, Option.map_some, decide_true, decide_false, EV6, EV7, e0]))
        exact RET.eq hR rfl
      have e0 : decide ((a.items.length : Int) = 0) = false := decide_eq_false (by omega)
      by_cases h20 : 20 < a.items.length
      · have e1 : decide ((20 : Int) < a.items.length) = true := decide_eq_true (by omega)
        unfold Ac.cs at hF hM ⊢
        (repeat' (first | (with_reducible refine CALL_pure (hF) ?_) | (with_reducible refine CALL_pure (hW) ?_) | (with_reducible refine CALL_pure (hM) ?_) | simp -dsimp -implicitDefEqProofs only [EV1, EV2, EV3, EV4, EV5, seval, ↓reduceIte, reduceCtorEq, eq_self, Option.map_some, decide_true, decide_false, EV6, EV7, e0, e1]))
        exact RET.eq hR rfl
      have e1 : decide ((20 : Int) < a.items.length) = false := decide_eq_false (by omega)
      unfold Ac.cs at hF hM ⊢
      (repeat' (first | (with_reducible (refine split_case (fun h => ?_) (fun h => ?_)) <;> (try simp only [Da, Db, Dc, Dd, De, Df, Dg, Dh] at h)) | (with_reducible refine CALL_pure (hF) ?_) | (with_reducible refine CALL_pure (hW) ?_) | (with_reducible refine CALL_pure (hM) ?_) | simp -dsimp -implicitDefEqProofs only [EV1, EV2, EV3, EV4, EV5, seval, ↓reduceIte, reduceCtorEq, eq_self, Option.map_some, decide_true, decide_false, EV6, EV7, e0, e1, hx.yes, hx.le0, hx.lt', hx.get, hx.row, hw] | simp -dsimp -implicitDefEqProofs only [EV1, EV2, EV3, EV4, EV5, seval, ↓reduceIte, reduceCtorEq, eq_self, Option.map_some, decide_true, decide_false, EV6, EV7, e0, e1, hn] | simp -dsimp -implicitDefEqProofs only [EV1, EV2, EV3, EV4, EV5, seval, ↓reduceIte, reduceCtorEq, eq_self, Option.map_some, decide_true, decide_false, EV6, EV7, e0, e1] | (with_reducible intro blk hblk; (try (have hnx := hblk; simp only [EVK] at hnx; (have hne := hnx)))) | (refine LK_next hx () ?_ (Weak.sub (SubN.nil _))) | (refine W_list (a.items) (fun i r (c : Unit) => ∀ y ∈ a.items.take i, y.kind ≤ 6) (fun i c => [(1, .ref [.int .i64 a.number, .str a.title, .int .i64 a.day, .int .i64 a.start.kind, .int .i64 a.start.day, .str a.start.event, .lst 25 (a.items.map Itm.cs)]), (32, .lst 25 (a.items.map Itm.cs)), (33, .int .i64 a.items.length), (34, .int .i64 i)]) (fun _ _ => []) () (by ((simp; done))) (Weak.rfl' _ _) (by omega) (fun i x r c hok hx hw => ?_) (fun c hok hn => ?_) )))
      · exact RET.eq hR rfl
      · rw [hx.take, List.mem_append, List.mem_singleton] at hblk
        rcases hblk with hblk | rfl
        · exact hok _ hblk
        · assumption
      · have hk : ∀ y ∈ a.items, y.kind ≤ 6 := by rw [List.take_length] at hok; exact hok
        obtain ⟨l0, it, hit⟩ : ∃ l0 it, a.items = l0 ++ [it] := ⟨_, _, (List.dropLast_concat_getLast (by intro e; rw [e] at h0; exact h0 rfl)).symm⟩
        have hmem : it ∈ a.items := by rw [hit]; simp
        have hlen : a.items.length = l0.length + 1 := by rw [hit]; simp
        have hwp : IntKind.i64.wrap ((a.items.length : Int) - 1) = (l0.length : Int) := by rw [wrap_i64 (by omega) (by omega)]; omega
        have hg : (a.items.map Itm.cs).getD l0.length [] = it.cs := by rw [hit]; simp
        rw [hwp]
        refine ⟨by omega, by omega, ?_⟩
        (try simp -dsimp -implicitDefEqProofs only [EV1, EV2, EV3, EV4, EV5, seval, ↓reduceIte, reduceCtorEq, eq_self, Option.map_some, decide_true, decide_false, EV6, EV7, hg])
        intro b5 hb5
        (try simp -dsimp -implicitDefEqProofs only [EV1, EV2, EV3, EV4, EV5, seval, ↓reduceIte, reduceCtorEq, eq_self, Option.map_some, decide_true, decide_false, EV6, EV7, hg])
        intro b6 hb6
        have h65 : ¬ b6 = b5 := by simp only [EVK] at hb6; exact hb6
        have h56 : ¬ b5 = b6 := fun e => h65 e.symm
        (try simp -dsimp -implicitDefEqProofs only [EV1, EV2, EV3, EV4, EV5, seval, ↓reduceIte, reduceCtorEq, eq_self, Option.map_some, decide_true, decide_false, EV6, EV7, hg, h65, h56])
        refine TR_join (ι := Option Nat) (fun j => [(1, .ref [.int .i64 a.number, .str a.title, .int .i64 a.day, .int .i64 a.start.kind, .int .i64 a.start.day, .str a.start.event, .lst 25 (a.items.map Itm.cs)]), (5, .sc (.pointer (some ⟨b5, 0, none⟩))), (6, .sc (.pointer (some ⟨b6, 0, none⟩)))])
          (fun j => (b6, AObj.cells 41 [.int .i64 a.number, .str a.title, .int .i64 a.day, .int .i64 a.start.kind, .int .i64 a.start.day, .str a.start.event, .own j 34 25 (a.items.map Itm.cs ++ [it.cs])]) :: (b5, .cells 34 it.cs) :: tokS j 34 ((a.items.map Itm.cs ++ [it.cs]).length * 25)) (fun j => ?_) (fun K hK => ?_)
        · have h1 := f15 G hG hG2 a (by omega) (by omega) (by omega) hs
          have h2 := f15 G hG hG2 (a.more it) (show a.title.length < _ by omega) (show a.start.event.length < _ by omega) (by show (a.items ++ [it]).length < _; simp; omega) (fun y hy => by
            rcases List.mem_append.1 hy with hy | hy
            · exact hs y hy
            · simp only [List.mem_singleton] at hy; subst hy; exact hs _ hmem)
          rw [chk_more a it hmay hmem (by omega) hk] at h2
          have h3 := f12 G hG it (hs it hmem)
          have hfl := finds_len it
          have hcl := chk_len h40
          obtain ⟨L, hL⟩ : ∃ L, a.chk = L := ⟨_, rfl⟩
          obtain ⟨F, hF2⟩ : ∃ F, it.finds = F := ⟨_, rfl⟩
          rw [hL] at h1 h2 hcl
          rw [hF2] at h2 h3 hfl
          have h4 := f11 G L L (by omega)
          rw [decide_eq_true rfl] at h4
          have h2' : Pure G Tryz.prog 15 [.agg [.int .i64 a.number, .str a.title, .int .i64 a.day, .int .i64 a.start.kind, .int .i64 a.start.day, .str a.start.event, .own j 34 25 (a.items.map Itm.cs ++ [it.cs])]] _ :=
            Pure.le h2 ⟨.inr (by simp [Ac.cs, Ac.more, AVleL, AVle1]), trivial⟩
          unfold Ac.cs at h1
          have w1 : IntKind.i64.wrap ((L.length : Int) + (F.length : Int)) = (L.length : Int) + F.length := wrap_i64 (by omega) (by omega)
          have w2 : IntKind.i64.wrap ((L.length : Int) + F.length + 1) = (L.length : Int) + F.length + 1 := wrap_i64 (by omega) (by omega)
          clear h2
          obtain ⟨M, hMM⟩ : ∃ M, L ++ (F.map (Fnd.put a.items.length) ++ [(fw 5 tDup).put a.items.length]) = M := ⟨_, rfl⟩
          have hMl : M.length = L.length + F.length + 1 := by rw [← hMM]; simp; omega
          rw [hMM] at h2'
          have w3 : decide ((M.length : Int) ≠ (L.length : Int) + F.length + 1) = false := decide_eq_false (by omega)
          have w4 : IntKind.i64.wrap ((M.length : Int) - 1) = ((L.length + F.length : Nat) : Int) := by rw [wrap_i64 (by omega) (by omega)]; omega
          have hMt : (M.map Fnd.cs).take L.length = L.map Fnd.cs := by rw [← hMM, List.map_append, List.take_left' (by simp)]
          have hMg : (M.map Fnd.cs).getD (L.length + F.length) [] = [.int .i64 a.items.length, .int .i64 0, .int .i64 0, .int .i64 0, .int .i64 5, .str tDup] := by
            rw [← hMM]
            simp [List.getD, fw, Fnd.put, Fnd.cs]
          (repeat' (first | (with_reducible (refine gd_case (fun h => ?_) (fun h => ?_)) <;> (try simp only [Da, Db, Dc, Dd, De, Df, Dg, Dh] at h)) | (with_reducible refine And.intro (by omega) ?_) | (with_reducible refine CALL_pure (h1) ?_) | (with_reducible refine CALL_pure (h2') ?_) | (with_reducible refine CALL_pure (h3) ?_) | (with_reducible refine CALL_pure (h4) ?_) | (with_reducible refine CALL_pure (hW) ?_) | simp -dsimp -implicitDefEqProofs only [EV1, EV2, EV3, EV4, EV5, seval, ↓reduceIte, reduceCtorEq, eq_self, Option.map_some, decide_true, decide_false, EV6, EV7, hg, h65, h56, w1, w2, w3, w4, hMt, hMg, tDup] | (with_reducible intro blk hblk; (try (have hnx := hblk; simp only [EVK] at hnx; (have hne := hnx)))) | (with_reducible refine both_case ?_ ?_) | (with_reducible refine same_case ?_)))
          all_goals first | exact RET.eq hR rfl | (exfalso; simp at h; done)
        · have hnd : Store.keys [(b6, AObj.cells 41 [.int .i64 a.number, .str a.title, .int .i64 a.day, .int .i64 a.start.kind, .int .i64 a.start.day, .str a.start.event, .lst 25 (a.items.map Itm.cs)]), (b5, .cells 34 it.cs)] |>.Nodup := by simp [Store.keys, h65]
          (repeat' (first | simp -dsimp -implicitDefEqProofs only [EV1, EV2, EV3, EV4, EV5, seval, ↓reduceIte, reduceCtorEq, eq_self, Option.map_some, decide_true, decide_false, EV6, EV7, hg, h65, h56, hne] | simp -dsimp -implicitDefEqProofs only [EV1, EV2, EV3, EV4, EV5, seval, ↓reduceIte, reduceCtorEq, eq_self, Option.map_some, decide_true, decide_false, EV6, EV7, hg, h65, h56] | (with_reducible intro blk hblk; (try (have hnx := hblk; simp only [EVK] at hnx; first | (have hne := And.intro hnx hne) | (have hne := hnx)))) | (with_reducible refine both_case ?_ ?_) | (with_reducible refine same_case ?_) | (refine ⟨[], rfl, (by simp), rfl, ?_⟩) | (refine ⟨[it.cs], rfl, (by simp [Itm.cs_len]), (by simp), ?_⟩) | (refine app_from [(b6, AObj.cells 41 [.int .i64 a.number, .str a.title, .int .i64 a.day, .int .i64 a.start.kind, .int .i64 a.start.day, .str a.start.event, .lst 25 (a.items.map Itm.cs)]), (b5, .cells 34 it.cs)] (by simp [Store.get, *]) (by simp) (by simp [Store.keys]; omega) hnd (by simp; omega) (fun g2 hg2 => ?_)) | (refine app_then [(b6, AObj.cells 41 [.int .i64 a.number, .str a.title, .int .i64 a.day, .int .i64 a.start.kind, .int .i64 a.start.day, .str a.start.event, .lst 25 (a.items.map Itm.cs)]), (b5, .cells 34 it.cs)] hg2 (by simp) hnd (by simp; omega) (fun g3 => ?_)) | (refine app_then1 [(b6, AObj.cells 41 [.int .i64 a.number, .str a.title, .int .i64 a.day, .int .i64 a.start.kind, .int .i64 a.start.day, .str a.start.event, .lst 25 (a.items.map Itm.cs)]), (b5, .cells 34 it.cs)] (by assumption) hg2 (by simp) hnd (by simp; omega) (fun g3 => ?_))))
          all_goals exact hK g3
end
end Go.Av
end
