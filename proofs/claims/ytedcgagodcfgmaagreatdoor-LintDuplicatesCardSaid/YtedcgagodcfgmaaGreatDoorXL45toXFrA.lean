/-
  LINT, 45: strings.Split at a space, strconv.Itoa; wordseq.Split, act.title.
-/
import Derived.Test.YtedcgagodcfgmaaGreatDoorShelf
import Derived.Test.YtedcgagodcfgmaaGreatDoorXL6toXL7
import Derived.Test.YtedcgagodcfgmaaGreatDoorXL9toXL10
import Derived.Lib.Split
import Derived.Lib.SplitLaws
import Derived.Lib.AppendIntMem
import Derived.Test.YtedcgagodcfgmaaGreatDoorXL17toXFrM
import Derived.Shelf.Vars
section
namespace Go.Av
open Go Go.RowKit Go.Proofs
set_option linter.unusedSimpArgs false
set_option linter.unusedVariables false

/-- A text cut at each space. -/
def cutAcc : List UInt8 → List UInt8 → List (List UInt8)
  | acc, [] => [acc]
  | acc, c :: s => if c = 32 then acc :: cutAcc [] s else cutAcc (acc ++ [c]) s
def cut32 (s : List UInt8) : List (List UInt8) := cutAcc [] s

def hdc (c : UInt8) : List (List UInt8) → List (List UInt8)
  | [] => []
  | a :: l => (c :: a) :: l
theorem cutAcc_cons (c : UInt8) : ∀ (s acc : List UInt8), cutAcc (c :: acc) s = hdc c (cutAcc acc s)
  | [], acc => rfl
  | d :: s, acc => by
    simp only [cutAcc]
    split
    · rfl
    · exact cutAcc_cons c s (acc ++ [d])
theorem cut32_cons (c : UInt8) (s : List UInt8) : cut32 (c :: s) = if c = 32 then [] :: cut32 s else hdc c (cut32 s) := by
  simp only [cut32, cutAcc]
  split
  · rfl
  · exact cutAcc_cons c s []
theorem hdc_len (c : UInt8) : ∀ l : List (List UInt8), (hdc c l).length = l.length
  | [] => rfl
  | a :: l => rfl
theorem cut32_len : ∀ s : List UInt8, (cut32 s).length ≤ s.length + 1
  | [] => by simp [cut32, cutAcc]
  | c :: s => by
    have := cut32_len s
    rw [cut32_cons]
    split
    · simp; omega
    · rw [hdc_len]; simp; omega
theorem cut32_pos : ∀ s : List UInt8, 0 < (cut32 s).length
  | [] => by simp [cut32, cutAcc]
  | c :: s => by
    have := cut32_pos s
    rw [cut32_cons]
    split
    · simp
    · rw [hdc_len]; exact this
theorem split_cut : ∀ s : List UInt8, Lib.splitK [32] 0 (Lib.count s [32]) s = cut32 s
  | [] => rfl
  | c :: s => by
    have ih := split_cut s
    rw [cut32_cons]
    by_cases hc : c = 32
    · subst hc
      have hix : Lib.index (32 :: s) [32] = 0 := by rw [Lib.index]; simp [List.isPrefixOf]
      rw [if_pos rfl, Lib.count_cons_eq, Nat.add_comm, Lib.splitK, hix, ← ih]
      rfl
    · have hp : ([32] : List UInt8).isPrefixOf (c :: s) = false := by simp [List.isPrefixOf, Ne.symm hc]
      have hix : Lib.index (c :: s) [32] = if Lib.index s [32] == -1 then -1 else Lib.index s [32] + 1 := by rw [Lib.index, hp]; simp
      rw [if_neg hc, Lib.count_cons_ne c 32 s hc, ← ih]
      by_cases hm : Lib.index s [32] = -1
      · rw [Lib.count_miss hm]
        rfl
      · have hge := Lib.index_ge s [32]
        obtain ⟨j, hj⟩ : ∃ j : Nat, Lib.index s [32] = j := ⟨(Lib.index s [32]).toNat, by omega⟩
        have hn : ((j : Int) == -1) = false := beq_eq_false_iff_ne.2 (by omega)
        have hn2 : ((j : Int) + 1 == -1) = false := beq_eq_false_iff_ne.2 (by omega)
        rw [Lib.count_hit (by simp) hj, Nat.add_comm]
        simp only [Lib.splitK, hix, hj, hn, hn2, Bool.false_eq_true, if_false, hdc, List.length_cons, List.length_nil, Nat.add_zero, Int.toNat_natCast]
        have e : ((j : Int) + 1).toNat = j + 1 := by omega
        rw [e]
        simp [List.take_succ_cons]
/-- A contract whose result lies in new blocks. -/
theorem Pure.of_calls2 {G : Glob} {P : Program} {k : FuncId} {fn : Func} {args : List AV} {r : AV} (hf : P.funcs[k]? = some fn) (hn : (fn.name == "runtime.NumGoroutine") = false) (hb : fn.body.isNone = false)
    (h : ∀ (τ : Store) (w : World) (vs : Array Value), Sat G τ w → RepL τ w args vs.toList → Calls P k vs w fun e w' => ∃ v, e = .returned v ∧ Below w.heap.size w w' ∧ ∀ τ' : Store, (∀ b ∈ τ'.keys, b < w.heap.size) → Rep τ' w' r v) : Pure G P k args r :=
  ⟨⟨fn, hf, hn, hb⟩, fun ρ w vs hS hA => by
    refine (h _ w vs hS hA).mono ?_
    rintro e w' ⟨v, rfl, hB, hr⟩
    exact ⟨v, r, [], rfl, ⟨rfl, rfl⟩, by simpa using Sat.below (by simpa using hS) hB, Ev.below hB, hr _ (fun b hb => by
      obtain ⟨⟨b', x⟩, hx, rfl⟩ := List.mem_map.1 hb
      exact (hS.obj _ _ (by simpa using hx)).lt)⟩⟩

structure GOk2 (G : Glob) : Prop where
  max : ∀ τ w, Sat G τ w → ∃ m, w.cell? ⟨7, 0, none⟩ = some (.int .i64 m)
  pow : ∀ τ w, Sat G τ w → Lib.TabIs Tryz.prog w "internal/strconv.uint64pow10" .u64 Lib.pow10Tab

section
variable (G : Glob)
theorem f145 (hG : GOk2 G) (n : Int) (h0 : -9223372036854775808 ≤ n) (h1 : n ≤ 9223372036854775807) : Pure G Tryz.prog 145 [.int .i64 n] (.str (Lib.itoa n)) := by
  refine Pure.of_calls Tryz.func145 (by kernel_rfl) (by kernel_rfl) fun τ w vs hS hA => ?_
  obtain ⟨u, rfl, h2⟩ := vs_one hA
  simp only [Rep] at h2
  subst h2
  refine ⟨.string ⟨(Lib.itoa n).toArray⟩, fun _ _ => by simp only [Rep], ?_⟩
  refine (Tryz.strconv_Itoa n h0 h1 w (hG.pow τ w hS)).mono ?_
  rintro e w' ⟨rfl, k, os, rfl⟩
  exact ⟨rfl, Lib.below_grow _ _ (Nat.le_refl _) _ _⟩
theorem f207 (hG : GOk2 G) (s : List UInt8) (hs : s.length < 4294967281) : Pure G Tryz.prog 207 [.str s, .str [32]] (.lst 1 ((cut32 s).map srow)) := by
  refine Pure.of_calls2 Tryz.func207 (by kernel_rfl) (by kernel_rfl) fun τ w vs hS hA => ?_
  obtain ⟨u, v, rfl, h1, h2⟩ := vs_two hA
  simp only [Rep] at h1 h2
  subst h1 h2
  obtain ⟨m, hm⟩ := hG.max τ w hS
  refine (Tryz.strings_Split ⟨⟨s⟩⟩ ⟨⟨[32]⟩⟩ m w hs hm (by decide)).mono ?_
  rintro e w' ⟨rfl, rfl⟩
  have hsp : (Lib.splitB ⟨⟨[32]⟩⟩ 0 (Lib.countB ⟨⟨s⟩⟩ ⟨⟨[32]⟩⟩) ⟨⟨s⟩⟩).map (·.data.toList) = cut32 s := (Lib.splitB_data _ _ _ _).trans (split_cut s)
  have hln := Lib.splitB_all ⟨⟨[32]⟩⟩ (by decide) 0 _ ⟨⟨s⟩⟩ rfl
  have hle := Lib.countB_le ⟨⟨[32]⟩⟩ (by decide) _ ⟨⟨s⟩⟩ (Nat.le_refl _)
  generalize Lib.splitB ⟨⟨[32]⟩⟩ 0 (Lib.countB ⟨⟨s⟩⟩ ⟨⟨[32]⟩⟩) ⟨⟨s⟩⟩ = l at *
  generalize Lib.countB ⟨⟨s⟩⟩ ⟨⟨[32]⟩⟩ = n at *
  refine ⟨_, rfl, (Below.refl _ _).alloc (Nat.le_refl _) _, fun τ' hτ => ?_⟩
  have hl2 : (cut32 s).length = n + 1 := by rw [← hsp, List.length_map, hln]
  simp only [Rep]
  right
  refine ⟨_, n + 1, by rw [List.length_map, hl2], by rw [List.length_map, hl2]; exact Nat.le_refl _, ?_, RepRows.of_get fun j hj => ?_⟩
  · have : (ByteArray.size ⟨⟨s⟩⟩) = s.length := rfl
    unfold maxLen
    omega
  · have hj2 : j < l.length := by rw [List.length_map] at hj; omega
    rw [List.getElem_map, Nat.zero_add, Nat.mul_one]
    refine ⟨rfl, RepAt.of_get fun i hi => ?_⟩
    have hi0 : i = 0 := by simp [srow] at hi; omega
    subst hi0
    have hc : (w.alloc (.cells (l.map Value.string).toArray 9)).cell? ⟨w.heap.size, j, none⟩ = some (.string l[j]) := by
      rw [World.cell?_alloc_at _ _ _ _ rfl, List.getElem?_toArray, List.getElem?_map, List.getElem?_eq_getElem hj2]
      rfl
    refine ⟨.string l[j], ⟨?_, fun hm => ?_⟩, rfl, ?_⟩
    · rw [add_lit, Nat.add_zero, Nat.zero_add]
      exact hc
    · rw [add_lit] at hm
      exact absurd (hτ _ hm.of_key) (Nat.lt_irrefl _)
    · have e : (cut32 s)[j]'(by omega) = l[j].data.toList := by simp [← hsp]
      simp [srow, Rep, e]

theorem f209 (s : List UInt8) : Pure G Tryz.prog 209 [.str s] (.bool (!wordOk s)) := by
  refine Pure.w c209 fun R hR => ?_
  unfold s209 r209
  (repeat' (first | (with_reducible refine CALL_pure (f210 G _) ?_) | simp -dsimp -implicitDefEqProofs only [EV1, EV2, EV3, EV4, EV5, seval, ↓reduceIte, reduceCtorEq, eq_self, Option.map_some, decide_true, decide_false, EV6, EV7]))
  (all_goals ((exact RET.eq hR rfl)))
/-- The pieces of a text; a text's pieces are words. -/
def cutW (s : List UInt8) : List (List UInt8) := if s = [] then [] else cut32 s
theorem f144 (hG : GOk2 G) (s : List UInt8) (hs : s.length < 4294967281) : Pure G Tryz.prog 144 [.str s]
    (.tup (if (cutW s).all wordOk then (if 256 < (cutW s).length then [.nil, .int .i64 6] else [if s = [] then .nil else .lst 1 ((cutW s).map srow), .int .i64 0]) else [.nil, .int .i64 2])) := by
  refine Pure.w c144 fun R hR => ?_
  unfold s144 r144
  have hl : (cut32 s).length < 9000000000000000000 := by have := cut32_len s; omega
  (repeat' (first | (with_reducible (refine split_case (fun h => ?_) (fun h => ?_)) <;> (try simp only [Da, Db, Dc, Dd, De, Df, Dg, Dh] at h)) | (with_reducible refine CALL_pure (f207 G hG s hs) ?_) | (with_reducible refine CALL_pure (f208 G _ (fun c => !wordOk c) (cut32 s) hl (fun x _ => (f209 G x).v)) ?_) | simp -dsimp -implicitDefEqProofs only [EV1, EV2, EV3, EV4, EV5, seval, ↓reduceIte, reduceCtorEq, eq_self, Option.map_some, decide_true, decide_false, EV6, EV7, all_any]))
  all_goals (refine RET.eq hR ?_)
  all_goals first | (simp_all [cutW]; done) | (simp_all [cutW]; omega) | (simp_all [cutW]; intro hall; obtain ⟨x, hx, hf⟩ := h; simp [hall x hx] at hf)

def titleOk (s : List UInt8) : Bool := (cutW s).all wordOk && decide ((cutW s).length ≤ 256) && decide (s ≠ [])
theorem f87 (hG : GOk2 G) (s : List UInt8) (hs : s.length < 4294967281) : Pure G Tryz.prog 87 [.str s] (.bool (titleOk s)) := by
  refine Pure.w c87 fun R hR => ?_
  unfold s87 r87
  have hf := f144 G hG s hs
  have hl : (cut32 s).length < 9000000000000000000 := by have := cut32_len s; omega
  by_cases h1 : (cutW s).all wordOk = true
  · by_cases h2 : 256 < (cutW s).length
    · rw [if_pos h1, if_pos h2] at hf
      (repeat' (first | (with_reducible refine CALL_pure (hf) ?_) | simp -dsimp -implicitDefEqProofs only [EV1, EV2, EV3, EV4, EV5, seval, ↓reduceIte, reduceCtorEq, eq_self, Option.map_some, decide_true, decide_false, EV6, EV7]))
      all_goals (refine RET.eq hR (congrArg AV.bool ?_); simp [titleOk, h1]; omega)
    · by_cases h3 : s = []
      · rw [if_pos h1, if_neg h2, if_pos h3] at hf
        (repeat' (first | (with_reducible refine CALL_pure (hf) ?_) | simp -dsimp -implicitDefEqProofs only [EV1, EV2, EV3, EV4, EV5, seval, ↓reduceIte, reduceCtorEq, eq_self, Option.map_some, decide_true, decide_false, EV6, EV7]))
        all_goals (refine RET.eq hR (congrArg AV.bool ?_); simp [titleOk, h3]; done)
      · rw [if_pos h1, if_neg h2, if_neg h3] at hf
        have h4 : cutW s = cut32 s := by simp [cutW, h3]
        have h5 : decide ((0 : Int) < ((cut32 s).length : Nat)) = true := by have := cut32_pos s; simp; omega
        rw [h4] at hf
        (repeat' (first | (with_reducible refine CALL_pure (hf) ?_) | simp -dsimp -implicitDefEqProofs only [EV1, EV2, EV3, EV4, EV5, seval, ↓reduceIte, reduceCtorEq, eq_self, Option.map_some, decide_true, decide_false, EV6, EV7, h5]))
        all_goals (refine RET.eq hR (congrArg AV.bool ?_); simp_all [titleOk]; done)
  · rw [if_neg h1] at hf
    (repeat' (first | (with_reducible refine CALL_pure (hf) ?_) | simp -dsimp -implicitDefEqProofs only [EV1, EV2, EV3, EV4, EV5, seval, ↓reduceIte, reduceCtorEq, eq_self, Option.map_some, decide_true, decide_false, EV6, EV7]))
    all_goals (refine RET.eq hR (congrArg AV.bool ?_); simp [titleOk, h1]; done)
end
end Go.Av
end

section
namespace Go.Av
open Go Go.RowKit Go.Proofs
set_option linter.unusedVariables false

def tabPow : List AV := Lib.pow10Tab.map (AV.int .u64)
theorem tabPow_len : tabPow.length = 20 := rfl
def listA (m : Int) : List (Nat × List AV) := [(6, tabNames), (2, tabBelow), (1, tabOrder), (5, tabPow), (7, [.int .i64 m])]
def GA (m : Int) : Glob where
  tab := (globOf (listA m)).tab
  holds σ w := (∀ p ∈ listA m, RepAt σ w ⟨p.1, 0, none⟩ 0 p.2) ∧ ∃ e, w.shape? 5 = some (e, 20)
  ev he h := ⟨fun p hp => RepAt.ev he _ _ _ (h.1 p hp), h.2.imp fun e h => he.shape _ _ h⟩
  tabs := fun {σ w g cs} h ht => (globOf (listA m)).tabs (σ := σ) (w := w) (g := g) (cs := cs) h.1 ht
theorem GA_ok (m : Int) : GOk (GA m) := ⟨rfl, rfl, rfl⟩
theorem gPow : Tryz.prog.globalNamed "internal/strconv.uint64pow10" = some 5 := by kernel_rfl
theorem ints_rep {τ : Store} {w : World} {k : IntKind} : ∀ {zs : List Int} {us : List Value}, RepL τ w (zs.map (AV.int k)) us → us = zs.map (Value.int k)
  | [], us, h => by simpa [RepL] using h
  | z :: zs, us, h => by
    simp only [List.map_cons, RepL] at h
    obtain ⟨u, us', rfl, h1, h2⟩ := h
    simp only [Rep] at h1
    rw [h1, ints_rep h2, List.map_cons]
theorem GA_ok2 (m : Int) : GOk2 (GA m) where
  max τ w hS := by
    have h := hS.glob.1 (7, [.int .i64 m]) (by simp [listA])
    simp only [RepAt] at h
    obtain ⟨⟨u, hf, _, hr⟩, _⟩ := h
    simp only [Rep] at hr
    exact ⟨m, hr ▸ hf.1⟩
  pow τ w hS := by
    have h := hS.glob.1 (5, tabPow) (by simp [listA])
    obtain ⟨e, hsh⟩ := hS.glob.2
    obtain ⟨vs, l1, l2, l3, l4⟩ := load_row h 20 (by rw [tabPow_len]; exact Nat.le_refl _)
    have hvs := ints_rep (zs := Lib.pow10Tab) (by simpa [tabPow, List.take_of_length_le (show (Lib.pow10Tab.map (AV.int .u64)).length ≤ 20 from Nat.le_refl _)] using l2)
    unfold Lib.TabIs World.var?
    rw [gPow]
    unfold World.shape? at hsh
    simp only [Option.bind_some]
    cases hh : w.heap[5]? with
    | none => rw [hh] at hsh; cases hsh
    | some o =>
      rw [hh] at hsh
      cases o with
      | cells c el fr =>
        simp only [Option.some.injEq, Prod.mk.injEq] at hsh ⊢
        obtain ⟨_, hcs⟩ := hsh
        apply Array.ext'
        rw [← hvs]
        show c.toList = vs
        apply List.ext_getElem?
        intro j
        by_cases hj : j < 20
        · have hj2 : j < vs.length := by omega
          have h4 := l4 j vs[j] (List.getElem?_eq_getElem hj2)
          rw [add_lit, Nat.zero_add, cell_of_row w _ j c el fr hh] at h4
          rw [List.getElem?_eq_getElem hj2, ← h4]
          simp
        · rw [List.getElem?_eq_none (l := c.toList) (by rw [Array.length_toList]; omega), List.getElem?_eq_none (l := vs) (by omega)]
      | _ => cases hsh
end Go.Av

namespace Go.Proofs.YtedcgagodcfgmaaGreatDoor
open Go.ChangeShapes Go.WideShapes Go.ChangeAt Go.RowKit
set_option linter.unusedVariables false
noncomputable def tPowT : TypeId := ((Tryz.prog.globals[5]?).map (·.type)).getD 0
theorem tPow : (Tryz.prog.globals[5]?).map (·.type) = some tPowT := by kernel_rfl
theorem tPowD : Go.Av.avD Tryz.prog 6 tPowT (Rows.laid_internal_strconv_uint64pow10 (H := Unit)) = some Go.Av.tabPow := by kernel_rfl
theorem cell7 {W : World} (h : W.ShapedOpen Tryz.prog) : ∃ m, W.cell? ⟨7, 0, none⟩ = some (.int .i64 m) :=
  cell_of_shapedOpen_int (t := 3) (zero := #[.int .i64 0]) h (of_decide_eq_true (by kernel_rfl)) (by kernel_rfl) rfl (by kernel_rfl) (by kernel_rfl) (by kernel_rfl)
theorem holdsA {W : World} (h : laidMetH Tryz.prog laidL W) (hs : W.ShapedOpen Tryz.prog) : ∃ m, (Go.Av.GA m).holds [] W := by
  obtain ⟨m, hm⟩ := cell7 hs
  have h0 := holdsL h
  obtain ⟨hmm, _⟩ := laidMetH_iff.1 h
  have hr := Go.Lib.laidMet.reads hmm mem4
  have hp := Go.Av.tab_of 6 hr Go.Av.gPow tPow tPowD
  refine ⟨m, fun p hp' => ?_, ?_⟩
  · simp only [Go.Av.listA, List.mem_cons, List.not_mem_nil, or_false] at hp'
    rcases hp' with rfl | rfl | rfl | rfl | rfl
    · exact h0 _ (by simp)
    · exact h0 _ (by simp)
    · exact h0 _ (by simp)
    · exact hp
    · simp only [Go.Av.RepAt, Go.Av.Rep]
      exact ⟨⟨_, Go.Av.fixed_none hm, rfl, rfl⟩, trivial⟩
  · obtain ⟨g, t, cs, fuel, p, h1, h2, h3, h4⟩ := hr
    obtain rfl := Option.some.inj (Go.Av.gPow.symm.trans h1)
    obtain rfl := Option.some.inj (tPow.symm.trans h2)
    have hl := (Go.Av.avD_ok 6 tPowT _ _ tPowD fuel cs.toList p h4).1.length
    rw [Go.Av.tabPow_len, Array.length_toList] at hl
    unfold World.var? at h3
    rw [Go.Av.gPow] at h3
    simp only [Option.bind_some] at h3
    unfold World.shape?
    cases hh : W.heap[5]? with
    | none => rw [hh] at h3; cases h3
    | some o =>
      rw [hh] at h3
      cases o with
      | cells c el fr =>
        simp only [Option.some.injEq] at h3
        subst h3
        exact ⟨el, by simp only [hl]⟩
      | _ => cases h3
end Go.Proofs.YtedcgagodcfgmaaGreatDoor
end
