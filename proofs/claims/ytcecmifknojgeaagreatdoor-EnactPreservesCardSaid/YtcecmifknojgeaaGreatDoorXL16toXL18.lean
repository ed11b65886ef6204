/-
  LINT, 16: lines by the reference.
-/
import Derived.Test.YtcecmifknojgeaaGreatDoorXL9toXL15
import Derived.Test.YtcecmifknojgeaaGreatDoorCards
import Derived.Test.YtcecmifknojgeaaGreatDoorTie
import Derived.WalkKit
import Derived.ProofKit
import Derived.OpenShut
import Derived.Carry
import Derived.LaidSub
import Derived.Deep.DeepHandedRow
import Derived.Test.YtcecmifknojgeaaGreatDoorXOpenGtoXGlob
import Derived.JoinedCond
import Derived.Deep.DeepWitnessRowRef
section
namespace Go.Av
open Go Go.RowKit Go.Proofs
set_option linter.unusedSimpArgs false
set_option linter.unusedVariables false

def kindNames : List (List UInt8) := [[98, 111, 111, 107], [112, 97, 114, 116], [115, 101, 99, 116, 105, 111, 110], [112, 97, 114, 97, 103, 114, 97, 112, 104], [116, 97, 98, 108, 101], [114, 111, 119], [99, 101, 108, 108], [110, 111, 116, 101]]
def kindText (k : Int) : List UInt8 := kindNames.getD k.toNat []
def escT (t : List UInt8) : List UInt8 := if t.getD 0 0 = 124 ∨ t.getD 0 0 = 92 then 92 :: t else t
def wordsT (l : List Wd) : List UInt8 := l.flatMap fun w => 32 :: escT w.text
def lineT (u : U) (n : Nat) : List UInt8 :=
  List.replicate (2 * n) 32 ++ (kindText u.kind ++ ((if u.kind = 0 then [] else 32 :: u.label) ++ ((if (0 : Int) < u.head.length then 58 :: wordsT u.head else []) ++ (if (0 : Int) < u.words.length then 32 :: 124 :: wordsT u.words else []))))
def lineOf (u : U) (n : Nat) : List UInt8 := if n ≤ 8 ∧ alone11 u = true then lineT u n else []
mutual
def U.lines : Nat → U → List (List UInt8)
  | n, ⟨i, k, l, h, w, ks⟩ => lineOf ⟨i, k, l, h, w, ks⟩ n :: U.liness (n + 1) ks
def U.liness : Nat → List U → List (List UInt8)
  | _, [] => []
  | n, u :: us => U.lines n u ++ U.liness n us
end
theorem U.lines_eq (u : U) (n : Nat) : u.lines n = lineOf u n :: U.liness (n + 1) u.kids := by cases u; rw [U.lines]
theorem U.liness_cons (u : U) (us : List U) (n : Nat) : U.liness n (u :: us) = u.lines n ++ U.liness n us := by rw [U.liness]
theorem U.lines_len : ∀ (u : U) (n : Nat), (u.lines n).length = u.flat.length := by
  refine U.ind fun u ih n => ?_
  rw [U.lines_eq, U.flat_eq]
  simp only [List.length_cons]
  congr 1
  have : ∀ us : List U, (∀ k ∈ us, ∀ m, (k.lines m).length = k.flat.length) → (U.liness (n + 1) us).length = (U.flats us).length := by
    intro us
    induction us with
    | nil => intro _; rfl
    | cons a us iha => intro h; rw [U.liness_cons, U.flats, List.length_append, List.length_append, h a (by simp), iha fun k hk => h k (by simp [hk])]
  exact this _ ih

theorem row_word {l : List Wd} (h : rowOk l = true) {w : Wd} (hw : w ∈ l) : 0 < w.text.length ∧ w.text.length ≤ 24 := by
  unfold rowOk at h
  simp only [Bool.and_eq_true, decide_eq_true_eq, List.all_eq_true] at h
  have h1 := h.2 w hw
  unfold wdOk wordOk at h1
  simp only [Bool.and_eq_true, decide_eq_true_eq] at h1
  omega
theorem row_len {l : List Wd} (h : rowOk l = true) : l.length ≤ 256 := by
  unfold rowOk at h
  simp only [Bool.and_eq_true, decide_eq_true_eq, List.all_eq_true] at h
  omega
theorem escT_len (t : List UInt8) : (escT t).length ≤ t.length + 1 := by unfold escT; split <;> simp
theorem wordsT_len : ∀ {l : List Wd}, (∀ w ∈ l, 0 < w.text.length ∧ w.text.length ≤ 24) → (wordsT l).length ≤ l.length * 26
  | [], _ => by simp [wordsT]
  | w :: l, h => by
    have h1 := (h w (by simp)).2
    have h2 := wordsT_len (l := l) fun x hx => h x (by simp [hx])
    have h3 := escT_len w.text
    unfold wordsT at *
    simp only [List.flatMap_cons, List.length_append, List.length_cons]
    omega
theorem kindText_len (k : Int) : (kindText k).length ≤ 9 := by
  unfold kindText
  have : ∀ n : Nat, (kindNames.getD n []).length ≤ 9 := fun n => by
    match n with
    | 0 | 1 | 2 | 3 | 4 | 5 | 6 | 7 => decide
    | n + 8 => simp [kindNames]
  exact this _
theorem alone_facts {u : U} (h : alone11 u = true) : 0 ≤ u.kind ∧ u.kind ≤ 7 ∧ rowOk u.head = true ∧ rowOk u.words = true ∧ u.label.length ≤ 9 := by
  unfold alone11 at h
  split at h
  · rename_i hk
    simp only [Bool.and_eq_true, decide_eq_true_eq] at h
    obtain ⟨h1, h2, h3⟩ := h
    have e2 : u.head = [] := List.length_eq_zero_iff.1 (by omega)
    have e3 : u.words = [] := List.length_eq_zero_iff.1 (by omega)
    rw [e2, e3, h1]
    exact ⟨by omega, by omega, by decide, by decide, by simp⟩
  · simp only [Bool.and_eq_true, decide_eq_true_eq] at h
    obtain ⟨h1, h2, h3, h4, h5⟩ := h
    refine ⟨by omega, h2, h4, h5, ?_⟩
    unfold labelOk at h3
    simp only [Bool.and_eq_true, decide_eq_true_eq] at h3
    omega
theorem wordsT_row {l : List Wd} (h : rowOk l = true) : (wordsT l).length ≤ 6656 := by
  have := wordsT_len fun w hw => row_word h hw
  have := row_len h
  omega

section
variable (G : Glob)

theorem lineOf_len (u : U) (n : Nat) : (lineOf u n).length ≤ 20000 := by
  unfold lineOf
  split
  · rename_i h
    obtain ⟨a0, a7, ah, aw, al⟩ := alone_facts h.2
    have b1 := wordsT_row ah
    have b2 := wordsT_row aw
    have b3 := kindText_len u.kind
    unfold lineT
    simp only [List.length_append, List.length_replicate]
    have c1 : (if u.kind = 0 then [] else 32 :: u.label).length ≤ 10 := by split <;> simp; omega
    have c2 : (if (0 : Int) < u.head.length then 58 :: wordsT u.head else []).length ≤ 6657 := by split <;> simp; omega
    have c3 : (if (0 : Int) < u.words.length then 32 :: 124 :: wordsT u.words else []).length ≤ 6658 := by split <;> simp; omega
    omega
  · simp

def textT (u : U) : List UInt8 := (u.lines 0).flatMap fun l => l ++ [10]
def textOf (u : U) : List UInt8 × Int := if shapeOk u then (if (16384 : Int) < (textT u).length then ([], 6) else (textT u, 0)) else ([], 1)
theorem lines_short (u : U) : ∀ (n : Nat), ∀ l ∈ u.lines n, l.length ≤ 20000 := by
  induction u using U.ind with
  | h u ih =>
    intro n
    rw [U.lines_eq]
    have key : ∀ us : List U, (∀ k ∈ us, ∀ m, ∀ l ∈ k.lines m, l.length ≤ 20000) → ∀ l ∈ U.liness (n + 1) us, l.length ≤ 20000 := by
      intro us
      induction us with
      | nil => intro _ l hl; cases hl
      | cons a us iha =>
        intro h l hl
        rw [U.liness_cons] at hl
        rcases List.mem_append.1 hl with hl | hl
        · exact h a (by simp) _ l hl
        · exact iha (fun k hk => h k (by simp [hk])) l hl
    intro l hl
    rcases List.mem_cons.1 hl with rfl | hl
    · exact lineOf_len u n
    · exact key u.kids ih l hl

end
end Go.Av
end

section
namespace Go.Av
open Go Go.RowKit Go.Proofs
set_option linter.unusedSimpArgs false
set_option linter.unusedVariables false

structure GOk (G : Glob) : Prop where
  names : G.tab 1 = some (kindNames.map AV.str)
  below : G.tab 2 = some [.lst 1 (([1, 2] : List Int).map irow), .lst 1 (([2] : List Int).map irow), .lst 1 (([3, 4, 7] : List Int).map irow), .lst 1 (([3, 4, 7] : List Int).map irow), .lst 1 (([5] : List Int).map irow), .lst 1 (([6] : List Int).map irow), .nil, .nil]
  order : G.tab 0 = some [.sc (.func (.func 301) #[] #[]), .sc (.func (.func 302) #[] #[])]

theorem eval_g {G : Glob} {i : Nat} {cs : List AV} (h : G.tab i = some cs) : ∀ env, SOpd.eval G env (.g i) = .ref cs := by intro env; simp only [SOpd.eval, h]
theorem lt8 {k : Int} (h0 : 0 ≤ k) (h7 : k ≤ 7) : k = 0 ∨ k = 1 ∨ k = 2 ∨ k = 3 ∨ k = 4 ∨ k = 5 ∨ k = 6 ∨ k = 7 := by omega

section
variable (G : Glob) (hG : GOk G)
include hG

theorem f83 (k : Int) : Pure G Tryz.prog 83 [.int .i64 k] (.str (if 0 ≤ k ∧ k ≤ 7 then kindText k else [])) := by
  have hg := eval_g hG.names
  refine Pure.w c83 fun R hR => ?_
  unfold s83 r83
  by_cases hk : 0 ≤ k ∧ k ≤ 7
  · rw [if_pos hk] at hR
    rcases lt8 hk.1 hk.2 with rfl | rfl | rfl | rfl | rfl | rfl | rfl | rfl <;> ((repeat' (simp -dsimp -implicitDefEqProofs only [EVz, seval, ↓reduceIte, reduceCtorEq, EV6, EV7, hg, kindNames, List.map, Int.toNat, List.drop, List.headD, List.length])); exact RET.eq hR rfl)
  · rw [if_neg hk] at hR
    (repeat' (first | (with_reducible (first | refine split_case (fun h => ?_) (fun h => ?_) | refine gd_case (fun h => ?_) (fun h => ?_)) <;> (try simp only [Da, Db, Dc, Dw, De, Df, Dg, Dh] at h)) | (with_reducible refine And.intro (by omega) ?_) | simp -dsimp -implicitDefEqProofs only [EVz, seval, ↓reduceIte, reduceCtorEq, EV6, EV7] | (exfalso; omega) | fail))
    (all_goals ((exact RET.eq hR rfl)))
theorem f86 (p k : Int) : Pure G Tryz.prog 86 [.int .i64 p, .int .i64 k] (.bool (nests p k)) := by
  have hg := eval_g hG.below
  refine Pure.w c86 fun R hR => ?_
  unfold s86 r86
  by_cases hk : 0 ≤ p ∧ p ≤ 7
  · rcases lt8 hk.1 hk.2 with rfl | rfl | rfl | rfl | rfl | rfl | rfl | rfl
    · have hc := f159 G [1, 2] k (by decide); simp only [List.map] at hc
      (repeat' (first | (with_reducible refine CALL_pure (hc) ?_) | simp -dsimp -implicitDefEqProofs only [EVz, seval, ↓reduceIte, reduceCtorEq, EV6, EV7, hg, List.drop, List.headD, List.length] | fail))
      refine RET.eq hR ?_; simp [nests]
    · have hc := f159 G [2] k (by decide); simp only [List.map] at hc
      (repeat' (first | (with_reducible refine CALL_pure (hc) ?_) | simp -dsimp -implicitDefEqProofs only [EVz, seval, ↓reduceIte, reduceCtorEq, EV6, EV7, hg, List.drop, List.headD, List.length, Int.toNat] | fail))
      refine RET.eq hR ?_; simp [nests]
    · have hc := f159 G [3, 4, 7] k (by decide); simp only [List.map] at hc
      (repeat' (first | (with_reducible refine CALL_pure (hc) ?_) | simp -dsimp -implicitDefEqProofs only [EVz, seval, ↓reduceIte, reduceCtorEq, EV6, EV7, hg, List.drop, List.headD, List.length, Int.toNat] | fail))
      refine RET.eq hR ?_; simp [nests, Bool.or_assoc]
    · have hc := f159 G [3, 4, 7] k (by decide); simp only [List.map] at hc
      (repeat' (first | (with_reducible refine CALL_pure (hc) ?_) | simp -dsimp -implicitDefEqProofs only [EVz, seval, ↓reduceIte, reduceCtorEq, EV6, EV7, hg, List.drop, List.headD, List.length, Int.toNat] | fail))
      refine RET.eq hR ?_; simp [nests, Bool.or_assoc]
    · have hc := f159 G [5] k (by decide); simp only [List.map] at hc
      (repeat' (first | (with_reducible refine CALL_pure (hc) ?_) | simp -dsimp -implicitDefEqProofs only [EVz, seval, ↓reduceIte, reduceCtorEq, EV6, EV7, hg, List.drop, List.headD, List.length, Int.toNat] | fail))
      refine RET.eq hR ?_; simp [nests]
    · have hc := f159 G [6] k (by decide); simp only [List.map] at hc
      (repeat' (first | (with_reducible refine CALL_pure (hc) ?_) | simp -dsimp -implicitDefEqProofs only [EVz, seval, ↓reduceIte, reduceCtorEq, EV6, EV7, hg, List.drop, List.headD, List.length, Int.toNat] | fail))
      refine RET.eq hR ?_; simp [nests]
    all_goals
      have hc := f159 G [] k (by decide); simp only [List.map] at hc
      (repeat' (first | simp -dsimp -implicitDefEqProofs only [EVz, seval, ↓reduceIte, reduceCtorEq, EV6, EV7, hg, List.drop, List.headD, List.length, Int.toNat] | (refine CALL_pure_le hc ⟨.inl (.inr rfl), ⟨.inl (.inl rfl), trivial⟩⟩ ?_) | fail))
      refine RET.eq hR ?_; simp [nests]
  · have e : nests p k = false := by unfold nests; rw [if_neg (by omega), if_neg (by omega), if_neg (by omega), if_neg (by omega), if_neg (by omega)]
    rw [e] at hR
    (repeat' (first | (with_reducible (refine gd_case (fun h => ?_) (fun h => ?_)) <;> (try simp only [Da, Db, Dc, Dw, De, Df, Dg, Dh] at h)) | (with_reducible refine And.intro (by omega) ?_) | simp -dsimp -implicitDefEqProofs only [EVz, seval, ↓reduceIte, reduceCtorEq, EV6, EV7] | (exfalso; omega) | fail))
    (all_goals ((exact RET.eq hR rfl)))
end
end Go.Av
end

section
namespace Go.Av
open Go Go.RowKit Go.Proofs
set_option linter.unusedVariables false

theorem calls_of {P : Program} {G : Glob} {k : FuncId} {args : List AV} {r : AV} (h : Pure G P k args r) {W : World} (hG : G.holds [] W) {vs : Array Value} (hA : RepL [] W args vs.toList) :
    Calls P k vs W fun e W' => ∃ v, e = .returned v ∧ Rep [] W' r v ∧ Below W.heap.size W W' := by
  have hS : Sat G ([] ++ []) W := ⟨by simp [Store.keys], fun b x hx => by simp at hx, hG⟩
  refine (h.2 [] W vs hS hA).mono ?_
  rintro e W' ⟨v, r', σ', rfl, ⟨rfl, rfl⟩, _, ev, hr⟩
  exact ⟨v, rfl, hr, ev.os, ev.tape, ev.output, ev.size, fun k hk => (ev.block k hk (by simp [Store.keys])).1⟩

theorem tab_of {P : Program} {w : World} {nm : String} {d : DataW Unit} {g : Nat} {t : TypeId} {avs : List AV} (n : Nat) (hr : Go.Lib.VarReads P w nm d) (hg : P.globalNamed nm = some g) (ht : (P.globals[g]?).map (·.type) = some t) (ha : avD P n t d = some avs) :
    RepAt [] w ⟨g, 0, none⟩ 0 avs := by
  obtain ⟨g', t', cs, fuel, p, h1, h2, h3, h4⟩ := hr
  obtain rfl := Option.some.inj (hg.symm.trans h1)
  obtain rfl := Option.some.inj (ht.symm.trans h2)
  exact repAt_var hg h3 (avD_ok n t d avs ha fuel cs.toList p h4)

def tabNames : List AV := kindNames.map AV.str
def tabBelow : List AV := [.lst 1 (([1, 2] : List Int).map irow), .lst 1 (([2] : List Int).map irow), .lst 1 (([3, 4, 7] : List Int).map irow), .lst 1 (([3, 4, 7] : List Int).map irow), .lst 1 (([5] : List Int).map irow), .lst 1 (([6] : List Int).map irow), .nil, .nil]
def tabOrder : List AV := [.sc (.func (.func 301) #[] #[]), .sc (.func (.func 302) #[] #[])]
def GL : Glob := globOf [(1, tabNames), (2, tabBelow), (0, tabOrder)]
theorem GL_ok : GOk GL := ⟨rfl, rfl, rfl⟩
end Go.Av

namespace Go.Proofs.YtcecmifknojgeaaGreatDoor
open Go.ChangeShapes Go.WideShapes Go.ChangeAt Go.RowKit
set_option linter.unusedVariables false

theorem own : ownKnob Tryz.prog.godebug = none := by kernel_rfl
def litV : DataW Unit → Value
  | .lit (.int k n) => .int k n
  | _ => .nilFunc
def litsV : DataW Unit → List Value
  | .agg ds => ds.map litV
  | _ => []

theorem gNames : Tryz.prog.globalNamed "pandect/unit.names" = some 1 := by kernel_rfl
theorem gBelow : Tryz.prog.globalNamed "pandect/unit.below" = some 2 := by kernel_rfl
theorem gOrder : Tryz.prog.globalNamed "pandect/syntax.order" = some 0 := by kernel_rfl
theorem tOrder : (Tryz.prog.globals[0]?).map (·.type) = some 107 := by kernel_rfl

theorem has_fn : ((List.range Tryz.prog.funcs.size).filter fun f => (Tryz.prog.funcs[f]?).any (·.name.toUTF8.data.toList == 112 :: [97, 110, 100, 101, 99, 116, 47, 115, 121, 110, 116, 97, 120, 46, 111, 114, 100, 101, 114, 36, 49])) = [301] := by kernel_rfl
theorem may_fn : ((List.range Tryz.prog.funcs.size).filter fun f => (Tryz.prog.funcs[f]?).any (·.name.toUTF8.data.toList == 112 :: [97, 110, 100, 101, 99, 116, 47, 115, 121, 110, 116, 97, 120, 46, 111, 114, 100, 101, 114, 36, 50])) = [302] := by kernel_rfl
theorem cells83 : Tryz.prog.cellsOf 105 = 1 := by kernel_rfl
theorem cells35 : Tryz.prog.cellsOf 79 = 1 := by kernel_rfl
theorem order_of {W : World} (h : funcsAt Tryz.prog W "pandect/syntax.order" (.agg [.iface "func" (.lit (.string [112, 97, 110, 100, 101, 99, 116, 47, 115, 121, 110, 116, 97, 120, 46, 111, 114, 100, 101, 114, 36, 49])), .iface "func" (.lit (.string [112, 97, 110, 100, 101, 99, 116, 47, 115, 121, 110, 116, 97, 120, 46, 111, 114, 100, 101, 114, 36, 50]))])) :
    Go.Av.RepAt [] W ⟨0, 0, none⟩ 0 Go.Av.tabOrder := by
  obtain ⟨g, t, cs, fuel, p, hg, ht, hv, hd⟩ := h
  obtain rfl := Option.some.inj (gOrder.symm.trans hg)
  obtain rfl := Option.some.inj (tOrder.symm.trans ht)
  obtain ⟨xs, n, hn, hx, hl, hxl, hxs⟩ := DataW.trod_struct Tryz.underlying107 hd
  have hl2 : cs.toList.length = 2 := hl.trans (by kernel_rfl)
  obtain ⟨u, v, huv⟩ : ∃ u v, cs.toList = [u, v] := by
    match hcs : cs.toList, hl2 with
    | [u, v], _ => exact ⟨u, v, rfl⟩
  have h0 : DataW.trod (funcToken Tryz.prog) Tryz.prog W 0 (fun _ => true) true n 105 ((cs.toList.drop 0).take (Tryz.prog.cellsOf 105)) = xs[0]? := hxs 0 _ rfl
  have h1 : DataW.trod (funcToken Tryz.prog) Tryz.prog W 0 (fun _ => true) true n 79 ((cs.toList.drop 1).take (Tryz.prog.cellsOf 79)) = xs[1]? := hxs 1 _ rfl
  have hm := congrArg Prod.fst hx
  rw [huv] at h0 h1
  simp only [cells83, cells35, List.drop_zero, List.take_succ_cons, List.take_zero, List.drop_succ_cons] at h0 h1
  obtain ⟨x0, x1, rfl⟩ : ∃ x0 x1, xs = [x0, x1] := by
    match xs, hxl with
    | [x0, x1], _ => exact ⟨x0, x1, rfl⟩
  simp only [List.map_cons, List.map_nil, DataW.funcsOut, DataW.funcsOutAll, DataW.agg.injEq, List.cons.injEq, and_true] at hm
  obtain ⟨e0, e1⟩ := hm
  have hu := func_of_trod (q := x0.2) Tryz.underlying105 has_fn (by rw [if_pos (beq_self_eq_true _)] at e0; rw [e0]; exact h0)
  have hw := func_of_trod (q := x1.2) Tryz.underlying79 may_fn (by rw [if_pos (beq_self_eq_true _)] at e1; rw [e1]; exact h1)
  subst hu hw
  refine Go.Av.repAt_var gOrder hv ⟨?_, ?_⟩
  · rw [huv]
    simp only [Go.Av.tabOrder, Go.Av.RepL, Go.Av.Rep]
    exact ⟨_, _, rfl, rfl, _, _, rfl, rfl, rfl⟩
  · rw [huv]
    simp [Value.oneCell']

noncomputable def tNamesT : TypeId := ((Tryz.prog.globals[1]?).map (·.type)).getD 0
theorem tNames : (Tryz.prog.globals[1]?).map (·.type) = some tNamesT := by kernel_rfl
theorem tNamesD : Go.Av.avD Tryz.prog 6 tNamesT (Rows.laid_pandect_unit_names (H := Unit)) = some Go.Av.tabNames := by kernel_rfl
noncomputable def tBelowT : TypeId := ((Tryz.prog.globals[2]?).map (·.type)).getD 0
theorem tBelow : (Tryz.prog.globals[2]?).map (·.type) = some tBelowT := by kernel_rfl
theorem tBelowD : Go.Av.avD Tryz.prog 6 tBelowT (Rows.laid_pandect_unit_below (H := Unit)) = some Go.Av.tabBelow := by kernel_rfl

theorem glob_holds {L : List (String × DataW Unit)} {W : World} (h : laidMetH Tryz.prog L W)
    (h1 : ("pandect/unit.names", Rows.laid_pandect_unit_names (H := Unit)) ∈ L.filter fun x => x.2.handleName?.isNone)
    (h2 : ("pandect/unit.below", Rows.laid_pandect_unit_below (H := Unit)) ∈ L.filter fun x => x.2.handleName?.isNone)
    (h3 : ("pandect/syntax.order", Rows.laid_pandect_syntax_order (H := Unit)) ∈ L) : Go.Av.GL.holds [] W := by
  obtain ⟨hm, _⟩ := laidMetH_iff.1 h
  intro p hp
  simp only [List.mem_cons, List.not_mem_nil, or_false] at hp
  rcases hp with rfl | rfl | rfl
  · exact Go.Av.tab_of 6 (Go.Lib.laidMet.reads hm h1) gNames tNames tNamesD
  · exact Go.Av.tab_of 6 (Go.Lib.laidMet.reads hm h2) gBelow tBelow tBelowD
  · exact order_of (laidMetH.funcs h h3)

noncomputable def laidWorld (os : Os) : World :=
  let w0 := World.doorLaid Tryz.prog 600 os
  { w0 with heap := w0.heap.modify 3 (fun
      | .cells _ t frozen => .cells (litsV Rows.laid_unicode_utf8_first).toArray t frozen
      | o => o) }
end Go.Proofs.YtcecmifknojgeaaGreatDoor
end

section
namespace Go.Proofs.YtcecmifknojgeaaGreatDoor
open Go.ChangeShapes Go.WideShapes Go.ChangeAt Go.RowKit
set_option linter.unusedVariables false
theorem and_mk {a b : Bool} (ha : a = true) (hb : b = true) : (a && b) = true := by rw [ha, hb]; rfl
theorem cellsU : Tryz.prog.cellsOf 27 = 8 := by kernel_rfl
abbrev laidL : List (String × DataW Unit) := Rows.enactStandsRow.laid
theorem mem3 : ("pandect/syntax.order", Rows.laid_pandect_syntax_order (H := Unit)) ∈ laidL := List.mem_of_getElem? (i := 3) rfl
theorem mem1 : ("pandect/unit.names", Rows.laid_pandect_unit_names (H := Unit)) ∈ laidL.filter fun x => x.2.handleName?.isNone :=
  List.mem_filter.2 ⟨List.mem_of_getElem? (i := 1) rfl, by kernel_rfl⟩
theorem mem2 : ("pandect/unit.below", Rows.laid_pandect_unit_below (H := Unit)) ∈ laidL.filter fun x => x.2.handleName?.isNone :=
  List.mem_filter.2 ⟨List.mem_of_getElem? (i := 2) rfl, by kernel_rfl⟩
theorem holdsL {W : World} (h : laidMetH Tryz.prog laidL W) : Go.Av.GL.holds [] W := glob_holds h mem1 mem2 mem3
set_option maxRecDepth 100000
theorem met (os : Os) (args : Array Value) : laidMetH Tryz.prog laidL ((laidWorld os).forCall (fun _ _ => 0) ⟨#[], args, []⟩).memory :=
  laidMetH_of_parts3 (fuel := 40) (laidMet_of_run' 40 (by kernel_rfl) (by kernel_rfl)) (by kernel_rfl) (by kernel_rfl)
theorem varsOk (os : Os) (args : Array Value) : ((laidWorld os).forCall (fun _ _ => 0) ⟨#[], args, []⟩).variablesRefB Tryz.checked.prog = true := by kernel_rfl
def RestOk (C : Checked) (w0 : World) (args : Array Value) : Prop := ((w0.forCall (fun _ _ => 0) ⟨#[], args, []⟩).heap.toList.drop C.prog.globals.size).take ((begin C.prog (fun _ _ => 0) default).world.heap.size - C.prog.globals.size) =
      (begin C.prog (fun _ _ => 0) default).world.heap.toList.drop C.prog.globals.size
theorem restOk (os : Os) (args : Array Value) : RestOk Tryz.checked (laidWorld os) args := by unfold RestOk; kernel_rfl
end Go.Proofs.YtcecmifknojgeaaGreatDoor
end

section
namespace Go.Av
open Go Go.RowKit Go.Proofs
set_option linter.unusedSimpArgs false
set_option linter.unusedVariables false

def cut (p : U → Bool) : List U → List U
  | [] => []
  | x :: l => if p x then x :: cut p l else [x]
theorem cut_all {p : U → Bool} : ∀ {l : List U}, l.all p = true → cut p l = l
  | [], _ => rfl
  | x :: l, h => by
    simp only [List.all_cons, Bool.and_eq_true] at h
    rw [cut, if_pos h.1, cut_all h.2]
theorem cut_app {p : U → Bool} {l m : List U} (h : l.all p = true) : cut p (l ++ m) = l ++ cut p m := by
  induction l with
  | nil => rfl
  | cons x l ih =>
    simp only [List.all_cons, Bool.and_eq_true] at h
    rw [List.cons_append, cut, if_pos h.1, ih h.2]; rfl
theorem cut_app_no {p : U → Bool} {l m : List U} (h : l.all p = false) : cut p (l ++ m) = cut p l := by
  induction l with
  | nil => simp at h
  | cons x l ih =>
    rw [List.cons_append, cut, cut]
    split
    · rename_i hx
      simp only [List.all_cons, hx, Bool.true_and] at h
      rw [ih h]
    · rfl
theorem flats_cons (u : U) (us : List U) : U.flats (u :: us) = u.flat ++ U.flats us := by rw [U.flats]
theorem flats_nil : U.flats [] = [] := by rw [U.flats]

theorem SubN.comm1 {σ : Store} {p : Nat × AObj} : SubN (σ ++ [p]) (p :: σ) := by
  refine ⟨fun q hq => ?_, fun hn => ?_⟩
  · rcases List.mem_append.1 hq with h | h
    · exact List.mem_cons_of_mem _ h
    · simp only [List.mem_singleton] at h; subst h; simp
  · rw [keys_append]
    simp only [Store.keys, List.map_cons, List.nodup_cons, List.map_nil] at hn ⊢
    refine List.nodup_append.2 ⟨hn.2, by simp, ?_⟩
    intro a ha b hb e
    simp only [List.mem_singleton] at hb
    subst hb e
    exact hn.1 ha
theorem SubN.left {σ τ : Store} : SubN σ (σ ++ τ) := by
  refine ⟨fun q hq => List.mem_append.2 (.inl hq), fun hn => ?_⟩
  rw [keys_append] at hn
  exact (List.nodup_append.1 hn).1

theorem RET.mk {x : AV} {R : AV → Store → Prop} {σ σ' : Store} (hs : SubN σ' σ) (h : R x σ') : RET x σ R := ⟨x, σ', AVle.rfl' _, hs, h⟩
theorem flat_kids {u k x : U} (hk : k ∈ u.kids) (hx : x ∈ k.flat) : x ∈ u.flat := U.flat_kid hk hx

section
variable (G : Glob)

theorem f48 (f : Value) (p : U → Bool) (N : Nat) (St : List U → Store → Prop) (hN : N < 1000000) :
    ∀ (u : U), u.Tame → (∀ x ∈ u.flat, ∀ pre σ, St pre σ → pre.length < N → VSpec G Tryz.prog f [.agg x.cs] σ (fun r σ' => r = .bool (p x) ∧ St (pre ++ [x]) σ')) →
      ∀ pre σ, St pre σ → pre.length + u.flat.length ≤ N → FnSpec G Tryz.prog 48 [.agg u.cs, .sc f] σ (fun r σ' => r = .bool (u.flat.all p) ∧ St (pre ++ cut p u.flat) σ') := by
  refine U.ind fun u ih ht hf pre σ hSt hle => ?_
  have hkl := ht.kids
  have hfl := u.flat_eq
  have hlen : u.flat.length = 1 + (U.flats u.kids).length := by rw [hfl, List.length_cons]; omega
  refine FnSpec.w c48 ?_
  unfold s48 r48
  (repeat' (simp -dsimp -implicitDefEqProofs only [EVz, seval, ↓reduceIte, reduceCtorEq, EV6, EV7]))
  refine CALL_spec σ [] (hf u u.flat_self pre σ hSt (by omega)) (AVleA.rfl' _) (by simpa using SubN.refl _) ?_
  rintro r σ' ⟨rfl, hSt'⟩
  rw [List.append_nil]
  cases hp : p u
  · (repeat' (simp -dsimp -implicitDefEqProofs only [EVz, seval, ↓reduceIte, reduceCtorEq, EV6, EV7]))
    exact RET.mk (SubN.refl _) ⟨by rw [hfl, List.all_cons, hp]; rfl, by rw [hfl, cut, if_neg (by simp [hp])]; exact hSt'⟩
  · (repeat' (first | simp -dsimp -implicitDefEqProofs only [EVz, seval, ↓reduceIte, reduceCtorEq, EV6, EV7, hx.yes, hx.le0, hx.lt', hx.get, hx.row, hw] | simp -dsimp -implicitDefEqProofs only [EVz, seval, ↓reduceIte, reduceCtorEq, EV6, EV7, hn] | simp -dsimp -implicitDefEqProofs only [EVz, seval, ↓reduceIte, reduceCtorEq, EV6, EV7] | (with_reducible intro blk hblk; (try (have hnx := hblk; simp only [EVK] at hnx; (have hne := hnx)))) | (refine W_list (ι := Store × List U) u.kids (fun i r c => St c.2 c.1 ∧ pre ++ cut p u.flat = c.2 ++ cut p (U.flats r) ∧ u.flat.all p = (U.flats r).all p ∧ c.2.length + (U.flats r).length ≤ N) (fun i c => [(1, .sc f), (12, .lst 8 (u.kids.map U.cs)), (13, .int .i64 u.kids.length), (14, .int .i64 i)]) (fun i c => c.1) (σ', pre ++ [u]) ⟨hSt', by rw [hfl, cut, if_pos hp]; simp, by rw [hfl, List.all_cons, hp, Bool.true_and], by simp; omega⟩ (Weak.rfl' _ _) (by omega) (fun i x r c hok hx hw => ?_) (fun c hok hn => ?_) ) | fail))
    · obtain ⟨o1, o2, o3, o4⟩ := hok
      rw [flats_cons] at o2 o3 o4
      rw [List.length_append] at o4
      refine CALL_spec c.1 [(blk, .cells 27 x.cs)] (ih x hx.mem (ht.kid hx.mem) (fun y hy => hf y (flat_kids hx.mem hy)) c.2 c.1 o1 (by omega)).v (AVleA.rfl' _) SubN.comm1 ?_
      rintro r' σ2 ⟨rfl, hS2⟩
      cases hq : x.flat.all p
      · (repeat' (simp -dsimp -implicitDefEqProofs only [EVz, seval, ↓reduceIte, reduceCtorEq, EV6, EV7]))
        exact RET.mk SubN.left ⟨by rw [o3, List.all_append, hq]; rfl, by rw [o2, cut_app_no hq]; exact hS2⟩
      · (repeat' (simp -dsimp -implicitDefEqProofs only [EVz, seval, ↓reduceIte, reduceCtorEq, EV6, EV7, hw]))
        rw [cut_all hq] at hS2
        exact LK_next hx (σ2, c.2 ++ x.flat) ⟨hS2, by rw [o2, cut_app hq, List.append_assoc], by rw [o3, List.all_append, hq, Bool.true_and], by simp; omega⟩ (Weak.sub SubN.left)
    · obtain ⟨o1, o2, o3, o4⟩ := hok
      exact RET.mk (SubN.refl _) ⟨by rw [o3, flats_nil]; rfl, by rw [o2, flats_nil, cut, List.append_nil]; exact o1⟩

theorem every_pure (f : Value) (p : U → Bool) (u : U) (ht : u.Tame) (hf : ∀ x ∈ u.flat, VPure G Tryz.prog f [.agg x.cs] (.bool (p x))) : Pure G Tryz.prog 48 [.agg u.cs, .sc f] (.bool (u.flat.all p)) := by
  refine FnSpec.mono (f48 G f p u.flat.length (fun _ σ => σ = []) ht.2 u ht (fun x hx pre σ hσ _ => ?_) [] [] rfl (by simp)) ?_
  · subst hσ; exact hf x hx
  · rintro r σ' ⟨h1, h2⟩; exact ⟨h1, h2⟩

theorem v_clo {k : Nat} {b : Nat} {args : List AV} {σ : Store} {R : AV → Store → Prop} (h : FnSpec G Tryz.prog k (args ++ [.sc (.pointer (some ⟨b, 0, none⟩))]) σ R) : VSpec G Tryz.prog (.func (.func k) #[] #[.pointer (some ⟨b, 0, none⟩)]) args σ R :=
  ⟨k, #[], #[.pointer (some ⟨b, 0, none⟩)], rfl, by simpa [AV.ofValue, AV.ofOne] using h⟩

theorem f87 (x : U) (b n : Nat) (hn : n < 1000000) : FnSpec G Tryz.prog 87 [.agg x.cs, .sc (.pointer (some ⟨b, 0, none⟩))] [(b, .cells 3 [.int .i64 n])] (fun r σ' => r = .bool true ∧ σ' = [(b, .cells 3 [.int .i64 ((n + 1 : Nat) : Int)])]) := by
  have hw : IntKind.i64.wrap ((n : Int) + 1) = ((n + 1 : Nat) : Int) := by rw [wrap_i64 (by omega) (by omega)]; omega
  refine FnSpec.w c87 ?_
  unfold s87 r87
  (repeat' (simp -dsimp -implicitDefEqProofs only [EVz, seval, ↓reduceIte, reduceCtorEq, EV6, EV7, hw]))
  exact RET.mk (SubN.refl _) ⟨rfl, rfl⟩

theorem f55 (u : U) (ht : u.Tame) : Pure G Tryz.prog 55 [.agg u.cs] (.int .i64 u.cnt) := by
  refine Pure.w c55 fun R hR => ?_
  unfold s55 r55
  (repeat' (first | simp -dsimp -implicitDefEqProofs only [EVz, seval, ↓reduceIte, reduceCtorEq, EV6, EV7] | (with_reducible intro blk hblk; (try (have hnx := hblk; simp only [EVK] at hnx; (have hne := hnx)))) | fail))
  refine CALL_spec _ [] (f48 G (.func (.func 87) #[] #[.pointer (some ⟨blk, 0, none⟩)]) (fun _ => true) u.flat.length (fun pre σ => σ = [(blk, .cells 3 [.int .i64 pre.length])]) ht.2 u ht (fun x hx pre σ hσ hp => ?_) [] _ rfl (by simp)).v (AVleA.rfl' _) (by simpa using SubN.refl _) ?_
  · subst hσ
    have hl := ht.2
    refine v_clo G (FnSpec.mono (f87 G x blk pre.length (by omega)) ?_)
    rintro r σ' ⟨h1, h2⟩
    exact ⟨h1, by rw [h2]; simp⟩
  · rintro r σ' ⟨rfl, rfl⟩
    rw [cut_all (by simp)]
    (repeat' (simp -dsimp -implicitDefEqProofs only [EVz, seval, ↓reduceIte, reduceCtorEq, EV6, EV7]))
    exact RET.eq hR (by simp [U.cnt])

theorem f49 (x : U) (b : Nat) (g : Option Nat) (rows : List Idd) (v : AV) (hv : v = .own g 23 3 (rows.map Idd.cs) ∨ v = .nil ∧ g = none ∧ rows = []) (hg : ∀ d, g = some d → d ≠ b) (hn : rows.length < 1000000) :
    FnSpec G Tryz.prog 49 [.agg x.cs, .sc (.pointer (some ⟨b, 0, none⟩))] ((b, .cells 70 [v]) :: tokS g 23 (rows.length * 3))
      (fun r σ' => r = .bool true ∧ ∃ g', (∀ d, g' = some d → d ≠ b) ∧ σ' = (b, .cells 70 [.own g' 23 3 ((rows ++ [x.id]).map Idd.cs)]) :: tokS g' 23 ((rows.length + 1) * 3)) := by
  have key : ∀ g' : Option Nat, (∀ d, g' = some d → d ≠ b) → ∀ σ, σ = (b, AObj.cells 70 [.own g' 23 3 (rows.map Idd.cs ++ [x.id.cs])]) :: tokS g' 23 ((rows.length + 1) * 3) → RET (.bool true) σ (fun r σ' => r = .bool true ∧ ∃ g', (∀ d, g' = some d → d ≠ b) ∧ σ' = (b, .cells 70 [.own g' 23 3 ((rows ++ [x.id]).map Idd.cs)]) :: tokS g' 23 ((rows.length + 1) * 3)) := by
    rintro g' h1 σ rfl
    exact RET.mk (SubN.refl _) ⟨rfl, g', h1, by simp⟩
  refine FnSpec.w c49 ?_
  unfold s49 r49
  rcases hv with rfl | ⟨rfl, rfl, rfl⟩
  · (repeat' (first | simp -dsimp -implicitDefEqProofs only [EVz, seval, ↓reduceIte, reduceCtorEq, EV6, EV7] | (with_reducible intro blk hblk; (try (have hnx := hblk; simp only [EVK] at hnx; (have hne := hnx)))) | (refine app_rowK (n := rows.length) (m' := (rows.length + 1) * 3) [_] (by rfl) (by simpa [Store.keys] using hg) (by simp) rfl rfl rfl (by assumption) (by omega) (fun gn hgn => ?_)) | fail))
    exact key gn (by simpa [Store.keys] using hgn) _ rfl
  · (repeat' (first | simp -dsimp -implicitDefEqProofs only [EVz, seval, ↓reduceIte, reduceCtorEq, EV6, EV7] | (with_reducible intro blk hblk; (try (have hnx := hblk; simp only [EVK] at hnx; (have hne := hnx)))) | (refine app_rowK (n := 0) (m' := 3) [_] (by rfl) (by simp) (by simp) rfl rfl rfl (by assumption) (by omega) (fun gn hgn => ?_)) | fail))
    exact RET.mk (SubN.refl _) ⟨rfl, gn, by simpa [Store.keys] using hgn, rfl⟩

theorem f30 (u : U) (ht : u.Tame) : Pure G Tryz.prog 30 [.agg u.cs] (.lst 3 (u.ids.map Idd.cs)) := by
  refine Pure.w c30 fun R hR => ?_
  unfold s30 r30
  (repeat' (first | simp -dsimp -implicitDefEqProofs only [EVz, seval, ↓reduceIte, reduceCtorEq, EV6, EV7] | (with_reducible intro blk hblk; (try (have hnx := hblk; simp only [EVK] at hnx; (have hne := hnx)))) | fail))
  refine CALL_spec _ [] (f48 G (.func (.func 49) #[] #[.pointer (some ⟨blk, 0, none⟩)]) (fun _ => true) u.flat.length (fun pre σ => ∃ v g, (v = .own g 23 3 ((pre.map U.id).map Idd.cs) ∨ v = .nil ∧ g = none ∧ pre.map U.id = []) ∧ (∀ d, g = some d → d ≠ blk) ∧ σ = (blk, .cells 70 [v]) :: tokS g 23 ((pre.map U.id).length * 3)) ht.2 u ht (fun x hx pre σ hσ hp => ?_) [] _ ⟨.nil, none, .inr ⟨rfl, rfl, rfl⟩, by simp, rfl⟩ (by simp)).v (AVleA.rfl' _) (by rw [List.append_nil]; exact SubN.refl _) ?_
  · have hl := ht.2
    obtain ⟨v, g, hv, hg, rfl⟩ := hσ
    refine v_clo G (FnSpec.mono (f49 G x blk g _ v hv hg (by simp; omega)) ?_)
    rintro r σ' ⟨h1, g', h2, rfl⟩
    exact ⟨h1, _, g', .inl rfl, h2, by simp⟩
  · rintro r σ' ⟨rfl, v, g, hv, hg, rfl⟩
    rw [cut_all (by simp)] at hv ⊢
    simp only [List.nil_append, List.append_nil] at hv ⊢
    rcases hv with rfl | ⟨rfl, rfl, h0⟩
    · (repeat' (simp -dsimp -implicitDefEqProofs only [EVz, seval, ↓reduceIte, reduceCtorEq, EV6, EV7]))
      exact hR _ _ (Or.inl (Or.inr ⟨rfl, by simp [U.ids]⟩))
    · exact absurd h0 (by rw [U.flat_eq]; simp)
end
end Go.Av
end
