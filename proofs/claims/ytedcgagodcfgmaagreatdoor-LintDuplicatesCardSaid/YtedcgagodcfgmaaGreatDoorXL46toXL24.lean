/-
  LINT, 46: the reference's pieces of a text, its sequence, its title.
-/
import Derived.Test.YtedcgagodcfgmaaGreatDoorXL45toXFrA
import Derived.Test.YtedcgagodcfgmaaGreatDoorXL14toXL15
import Derived.Test.YtedcgagodcfgmaaGreatDoorXL20toXOpI
section
namespace Go.Av
open Go Go.RowKit Go.Proofs
set_option linter.unusedSimpArgs false
set_option linter.unusedVariables false
theorem cut_end {rows : List (List UInt8)} {s : List UInt8} {f : Nat} (h : rows ++ cutAcc ((s.drop f).take (s.length - f)) (s.drop s.length) = cut32 s) : rows ++ [(s.take s.length).drop f] = cut32 s := by
  rw [← h, List.drop_length, cutAcc, List.take_length, List.take_of_length_le (by simp)]
theorem getD_drop {s : List UInt8} {i : Nat} (hi : i < s.length) : s.drop i = s.getD i 0 :: s.drop (i + 1) := by
  rw [List.getD_eq_getElem?_getD, List.getElem?_eq_getElem hi]
  exact List.drop_eq_getElem_cons hi
theorem u8_of {c : UInt8} (h : (c.toNat : Int) = 32) : c = 32 := UInt8.toNat_inj.1 (by simpa using Int.ofNat.inj h)
theorem cut_hit {rows : List (List UInt8)} {s : List UInt8} {f i : Nat} (hi : i < s.length) (hf : f ≤ i) (hc : ((s.getD i 0).toNat : Int) = 32) (h : rows ++ cutAcc ((s.drop f).take (i - f)) (s.drop i) = cut32 s) :
    (rows ++ [(s.take i).drop f]) ++ cutAcc ((s.drop (i + 1)).take (i + 1 - (i + 1))) (s.drop (i + 1)) = cut32 s := by
  rw [← h, getD_drop hi, cutAcc, if_pos (u8_of hc), Nat.sub_self, List.take_zero, List.drop_take]
  simp
theorem cut_miss {rows : List (List UInt8)} {s : List UInt8} {f i : Nat} (hi : i < s.length) (hf : f ≤ i) (hc : ¬ ((s.getD i 0).toNat : Int) = 32) (h : rows ++ cutAcc ((s.drop f).take (i - f)) (s.drop i) = cut32 s) :
    rows ++ cutAcc ((s.drop f).take (i + 1 - f)) (s.drop (i + 1)) = cut32 s := by
  rw [← h, getD_drop hi, cutAcc, if_neg (fun e => hc (by rw [e]; rfl))]
  congr 2
  have e : i + 1 - f = (i - f) + 1 := by omega
  have hl : i - f < (s.drop f).length := by simp; omega
  rw [e, List.take_add_one, List.getElem?_eq_getElem hl, List.getElem_drop]
  have e2 : f + (i - f) = i := by omega
  simp [e2, List.getD_eq_getElem?_getD, List.getElem?_eq_getElem hi]
section
variable (G : Glob)
set_option maxHeartbeats 2000000 in
theorem f149 (s : List UInt8) (hs : s.length < 4294967281) : Pure G Tryz.prog 149 [.str s] (.lst 1 ((cutW s).map srow)) := by
  refine Pure.w c149 fun R hR => ?_
  unfold s149 r149
  (repeat' (first | (with_reducible (first | refine split_case (fun h => ?_) (fun h => ?_) | refine gd_case (fun h => ?_) (fun h => ?_)) <;> (try simp only [Da, Db, Dc, Dd, De, Df, Dg, Dh] at h)) | (with_reducible refine And.intro (by omega) ?_) | simp -dsimp -implicitDefEqProofs only [EV1, EV2, EV3, EV4, EV5, seval, ↓reduceIte, reduceCtorEq, eq_self, Option.map_some, decide_true, decide_false, EV6, EV7] | (with_reducible intro blk hblk; (try (have hnx := hblk; simp only [EVK] at hnx; (have hne := hnx)))) | (refine ⟨[], rfl, (by simp), rfl, ?_⟩) | (refine W_loop (ι := Nat × Nat × List (List UInt8) × Option Nat) (fun p => p.1 ≤ s.length + 1 ∧ p.2.1 ≤ p.1 ∧ p.2.2.1.length ≤ p.1 ∧ (p.1 ≤ s.length → p.2.2.1 ++ cutAcc ((s.drop p.2.1).take (p.1 - p.2.1)) (s.drop p.1) = cut32 s) ∧ (s.length < p.1 → p.2.2.1 = cut32 s)) (fun p => s.length + 1 - p.1) (fun p => [(0, .str s), (3, .own p.2.2.2 9 1 (p.2.2.1.map srow)), (4, .int .i64 p.2.1), (5, .int .i64 p.1)]) (fun p => tokS p.2.2.2 9 p.2.2.1.length) (0, 0, [], some blk) ⟨Nat.zero_le _, Nat.le_refl _, Nat.le_refl _, fun _ => rfl, fun h => by simp at h⟩ (Weak.rfl' _ _) (fun p hp => ?_))))
  · exact hR _ _ (Or.inl (Or.inr ⟨rfl, by simp [cutW, h]⟩))
  · rename_i h1 h2 h3 blk hb
    rcases p with ⟨i, f, rows, c⟩
    obtain ⟨p1, p2, p3, p4, p5⟩ := hp
    simp only at *
    have hi : i < s.length := by omega
    have hw : IntKind.i64.wrap ((i : Int) + 1) = ((i + 1 : Nat) : Int) := wrap_up (by omega)
    refine app_row (n := rows.length) (m' := rows.length + 1) tok_get (by simp) (by omega) (by omega) rfl (by assumption) (by omega) (fun gn => ?_)
    rw [hw]
    refine ⟨(i + 1, i + 1, rows ++ [(s.take i).drop f], gn), ⟨by omega, Nat.le_refl _, by simp; omega, fun _ => cut_hit hi p2 (by assumption) (p4 (by omega)), fun h => by omega⟩, by simp only; omega, ?_⟩
    have e1 : (rows ++ [(s.take i).drop f]).map srow = rows.map srow ++ [[AV.str ((s.take i).drop f)]] := by simp [srow]
    simp only [e1, List.length_append, List.length_cons, List.length_nil]
    exact Weak.of (by simp [EnvLe, Env.get, AVle, AVle1]) (SubN.refl _)
  · rename_i h1 h2 h3
    rcases p with ⟨i, f, rows, c⟩
    obtain ⟨p1, p2, p3, p4, p5⟩ := hp
    simp only at *
    have hi : i < s.length := by omega
    have hw : IntKind.i64.wrap ((i : Int) + 1) = ((i + 1 : Nat) : Int) := wrap_up (by omega)
    rw [hw]
    refine ⟨(i + 1, f, rows, c), ⟨by simp only; omega, by simp only; omega, by simp only; omega, fun _ => cut_miss hi p2 (by assumption) (p4 (by omega)), fun h => by omega⟩, by simp only; omega, ?_⟩
    exact Weak.rfl' _ _
  · rename_i h1 h2 blk hb
    rcases p with ⟨i, f, rows, c⟩
    obtain ⟨p1, p2, p3, p4, p5⟩ := hp
    simp only at *
    have hi : i = s.length := by omega
    subst hi
    have hw : IntKind.i64.wrap ((s.length : Int) + 1) = ((s.length + 1 : Nat) : Int) := wrap_up (by omega)
    refine app_row (n := rows.length) (m' := rows.length + 1) tok_get (by simp) (by omega) (by omega) rfl (by assumption) (by omega) (fun gn => ?_)
    rw [hw]
    refine ⟨(s.length + 1, s.length + 1, rows ++ [(s.take s.length).drop f], gn), ⟨by omega, Nat.le_refl _, by simp; omega, fun h => by omega, fun _ => cut_end (p4 (by omega))⟩, by simp only; omega, ?_⟩
    have e1 : (rows ++ [(s.take s.length).drop f]).map srow = rows.map srow ++ [[AV.str ((s.take s.length).drop f)]] := by simp [srow]
    simp only [e1, List.length_append, List.length_cons, List.length_nil]
    exact Weak.of (by simp [EnvLe, Env.get, AVle, AVle1]) (SubN.refl _)
  · rename_i h0
    have e := hp.2.2.2.2 (by omega)
    exact hR _ _ (Or.inl (Or.inr ⟨rfl, by simp [cutW, h0, e]⟩))
theorem cutW_len (s : List UInt8) : (cutW s).length ≤ s.length + 1 := by
  unfold cutW
  split
  · simp
  · exact cut32_len s
theorem f95 (s : List UInt8) (hs : s.length < 4294967281) : Pure G Tryz.prog 95 [.str s]
    (.tup (if (cutW s).all wordOk then (if 256 < (cutW s).length then [.nil, .int .i64 6] else [.lst 1 ((cutW s).map srow), .int .i64 0]) else [.nil, .int .i64 2])) := by
  refine Pure.w c95 fun R hR => ?_
  unfold s95 r95
  have hl : (cutW s).length < 9000000000000000000 := by have := cutW_len s; omega
  (repeat' (first | (with_reducible (refine split_case (fun h => ?_) (fun h => ?_)) <;> (try simp only [Da, Db, Dc, Dd, De, Df, Dg, Dh] at h)) | (with_reducible refine CALL_pure (f149 G s hs) ?_) | (with_reducible refine CALL_pure (f150 G _) ?_) | simp -dsimp -implicitDefEqProofs only [EV1, EV2, EV3, EV4, EV5, seval, ↓reduceIte, reduceCtorEq, eq_self, Option.map_some, decide_true, decide_false, EV6, EV7, hx.yes, hx.le0, hx.lt', hx.get, hx.row, hw] | simp -dsimp -implicitDefEqProofs only [EV1, EV2, EV3, EV4, EV5, seval, ↓reduceIte, reduceCtorEq, eq_self, Option.map_some, decide_true, decide_false, EV6, EV7, hn] | simp -dsimp -implicitDefEqProofs only [EV1, EV2, EV3, EV4, EV5, seval, ↓reduceIte, reduceCtorEq, eq_self, Option.map_some, decide_true, decide_false, EV6, EV7] | (refine LK_next hx () ?_ (Weak.rfl' _ _)) | (refine W_list (cutW s) (fun i r (c : Unit) => (cutW s).all wordOk = r.all wordOk) (fun i c => [(4, .lst 1 ((cutW s).map srow)), (5, .int .i64 i)]) (fun _ _ => []) () (by rfl) (Weak.rfl' _ _) (by omega) (fun i x r c hok hx hw => ?_) (fun c hok hn => ?_) )))
  all_goals first | (rw [hok]; simp_all; done) | (refine RET.eq hR ?_; first | (rw [if_pos (by rw [hok]; rfl), if_neg (by omega)]; done) | (rw [if_pos (by rw [hok]; rfl), if_pos (by omega)]; done) | (rw [if_neg (by rw [hok]; simp_all)]; done))
theorem f46 (s : List UInt8) (hs : s.length < 4294967281) : Pure G Tryz.prog 46 [.str s] (.bool (titleOk s)) := by
  refine Pure.w c46 fun R hR => ?_
  unfold s46 r46
  have hf := f95 G s hs
  have hl : (cutW s).length < 9000000000000000000 := by have := cutW_len s; omega
  by_cases h1 : (cutW s).all wordOk = true
  · by_cases h2 : 256 < (cutW s).length
    · rw [if_pos h1, if_pos h2] at hf
      (repeat' (first | (with_reducible refine CALL_pure (hf) ?_) | simp -dsimp -implicitDefEqProofs only [EV1, EV2, EV3, EV4, EV5, seval, ↓reduceIte, reduceCtorEq, eq_self, Option.map_some, decide_true, decide_false, EV6, EV7]))
      all_goals (refine RET.eq hR (congrArg AV.bool ?_); simp [titleOk, h1]; omega)
    · rw [if_pos h1, if_neg h2] at hf
      by_cases h3 : s = []
      · have h5 : decide ((0 : Int) < ((cutW s).length : Nat)) = false := by simp [cutW, h3]
        (repeat' (first | (with_reducible refine CALL_pure (hf) ?_) | simp -dsimp -implicitDefEqProofs only [EV1, EV2, EV3, EV4, EV5, seval, ↓reduceIte, reduceCtorEq, eq_self, Option.map_some, decide_true, decide_false, EV6, EV7, h5]))
        all_goals (refine RET.eq hR (congrArg AV.bool ?_); simp [titleOk, h3]; done)
      · have h5 : decide ((0 : Int) < ((cutW s).length : Nat)) = true := by have := cut32_pos s; simp [cutW, h3]; omega
        (repeat' (first | (with_reducible refine CALL_pure (hf) ?_) | simp -dsimp -implicitDefEqProofs only [EV1, EV2, EV3, EV4, EV5, seval, ↓reduceIte, reduceCtorEq, eq_self, Option.map_some, decide_true, decide_false, EV6, EV7, h5]))
        all_goals (refine RET.eq hR (congrArg AV.bool ?_); simp_all [titleOk]; done)
  · rw [if_neg h1] at hf
    (repeat' (first | (with_reducible refine CALL_pure (hf) ?_) | simp -dsimp -implicitDefEqProofs only [EV1, EV2, EV3, EV4, EV5, seval, ↓reduceIte, reduceCtorEq, eq_self, Option.map_some, decide_true, decide_false, EV6, EV7]))
    all_goals (refine RET.eq hR (congrArg AV.bool ?_); simp [titleOk, h1]; done)
end
end Go.Av
end

section
namespace Go.Av
open Go Go.RowKit Go.Proofs
set_option linter.unusedSimpArgs false
set_option linter.unusedVariables false
def startAct (s : Sta) : Bool :=
  if s.kind = 1 then inR s.day 0 1048576 && decide (s.event = []) else if s.kind = 2 then decide (s.day = 0) && decide (s.event = []) else if s.kind = 3 then decide (s.day = 0) && nameOk s.event else false
section
variable (G : Glob)
theorem f47 (s : Sta) : Pure G Tryz.prog 47 [.agg [.int .i64 s.kind, .int .i64 s.day, .str s.event]] (.bool (startAct s)) := by
  refine Pure.w c47 fun R hR => ?_
  unfold s47 r47
  (repeat' (first | (with_reducible (first | refine split_case (fun h => ?_) (fun h => ?_) | refine gd_case (fun h => ?_) (fun h => ?_)) <;> (try simp only [Da, Db, Dc, Dd, De, Df, Dg, Dh] at h)) | (with_reducible refine CALL_pure (f45 G _ _ _) ?_) | (with_reducible refine CALL_pure (f53 G _) ?_) | simp -dsimp -implicitDefEqProofs only [EV1, EV2, EV3, EV4, EV5, seval, ↓reduceIte, reduceCtorEq, eq_self, Option.map_some, decide_true, decide_false, EV6, EV7]))
  (all_goals (((refine RET.eq hR ?_; ((simp_all [startAct]; done))))))
end
end Go.Av
end

section
namespace Go.Av
open Go Go.RowKit Go.Proofs
set_option linter.unusedSimpArgs false
set_option linter.unusedVariables false
structure Ac where
  number : Int
  title : List UInt8
  day : Int
  start : Sta
  items : List Itm
def Ac.cs (a : Ac) : List AV := [.int .i64 a.number, .str a.title, .int .i64 a.day, .int .i64 a.start.kind, .int .i64 a.start.day, .str a.start.event, .lst 25 (a.items.map Itm.cs)]
def Ac.few (a : Ac) : Bool := decide (a.items.length ≤ 40) && decide (a.title.length ≤ 300) && decide (a.start.event.length ≤ 100) && a.items.all Itm.few
section
variable (G : Glob)
theorem f14 (a : Ac) (hl : a.items.length < 9000000000000000000) (hf : ∀ x ∈ a.items, x.fit) : Pure G Tryz.prog 14 [.agg a.cs] (.bool a.few) := by
  refine Pure.w c14 fun R hR => ?_
  unfold s14 r14 Ac.cs
  (repeat' (first | (with_reducible (first | refine split_case (fun h => ?_) (fun h => ?_) | refine gd_case (fun h => ?_) (fun h => ?_)) <;> (try simp only [Da, Db, Dc, Dd, De, Df, Dg, Dh] at h)) | (with_reducible refine CALL_pure (f9 G _ (hf _ hx.mem)) ?_) | simp -dsimp -implicitDefEqProofs only [EV1, EV2, EV3, EV4, EV5, seval, ↓reduceIte, reduceCtorEq, eq_self, Option.map_some, decide_true, decide_false, EV6, EV7, hx.yes, hx.le0, hx.lt', hx.get, hx.row, hw] | simp -dsimp -implicitDefEqProofs only [EV1, EV2, EV3, EV4, EV5, seval, ↓reduceIte, reduceCtorEq, eq_self, Option.map_some, decide_true, decide_false, EV6, EV7, hn] | simp -dsimp -implicitDefEqProofs only [EV1, EV2, EV3, EV4, EV5, seval, ↓reduceIte, reduceCtorEq, eq_self, Option.map_some, decide_true, decide_false, EV6, EV7] | (refine LK_next hx () ?_ (Weak.rfl' _ _)) | (refine W_list (a.items) (fun i r (c : Unit) => a.items.all Itm.few = r.all Itm.few) (fun i c => [(1, .ref [.int .i64 a.number, .str a.title, .int .i64 a.day, .int .i64 a.start.kind, .int .i64 a.start.day, .str a.start.event, .lst 25 (a.items.map Itm.cs)]), (3, .int .i64 i)]) (fun _ _ => []) () (by rfl) (Weak.rfl' _ _) (by omega) (fun i x r c hok hx hw => ?_) (fun c hok hn => ?_) )))
  (all_goals (first | (refine RET.eq hR ?_; (refine congrArg AV.bool (Bool.eq_iff_iff.2 ?_); simp only [Ac.few, EVB] at *; omega)) | (refine RET.eq hR ?_; first | (simp only [Ac.few, hok, h, EVC, decide_true, decide_false]; done) | (simp_all [Ac.few]; omega)) | (rw [hok]; simp only [Ac.few, h, EVC, decide_true, decide_false]; done)))
end
end Go.Av
end

section
namespace Go.Av
open Go Go.RowKit Go.Proofs Go.RowKit
theorem open_act (n : Nat) (a : List AV) (h : Shp Tryz.prog reachBytes n 41 a) : ∃ x : Ac, a = x.cs ∧ Big x.items.length ∧ ∀ y ∈ x.items, y.fit := by
  obtain ⟨m, rfl, g⟩ := shp_struct Tryz.underlying41 h
  clear h
  simp only [ShpF] at g
  obtain ⟨a1, b1, rfl, h1, a2, b2, rfl, h2, a3, b3, rfl, h3, a4, b4, rfl, h4, a5, b5, rfl, h5, rfl⟩ := g
  obtain ⟨k, rfl⟩ := shp_int Tryz.underlying3 h1
  obtain ⟨s, _, rfl⟩ := shp_str Tryz.underlying9 h2
  obtain ⟨d, rfl⟩ := shp_int Tryz.underlying3 h3
  obtain ⟨t, rfl, _⟩ := open_start h4
  obtain ⟨l, rfl, q, p⟩ := shp_slice (f := Itm.cs) (q := Itm.fit) (sz := 25) Tryz.underlying32 (by kernel_rfl) (fun m' hm r hr => open_item m' r hr) h5
  exact ⟨⟨k, s, d, t, l⟩, rfl, big_of q, p⟩
end Go.Av
end

section
namespace Go.Av
open Go Go.RowKit Go.Proofs
set_option linter.unusedSimpArgs false
set_option linter.unusedVariables false

theorem Itm.ext' {a b : Itm} (h1 : a.kind = b.kind) (h2 : a.at_ = b.at_) (h3 : a.to_ = b.to_) (h4 : a.wh = b.wh) (h5 : a.nth = b.nth) (h6 : a.unit = b.unit) (h7 : a.old = b.old) (h8 : a.new = b.new) (h9 : a.label = b.label) (h10 : a.for_ = b.for_)
    (h11 : a.start = b.start) (h12 : a.act = b.act) (h13 : a.item = b.item) (h14 : a.day = b.day) (h15 : a.event = b.event) (h16 : a.by_ = b.by_) : a = b := by
  cases a; cases b; simp_all

theorem sta_eq {a b : Sta} (h : (decide (a.kind = b.kind) && (decide (a.day = b.day) && (decide (a.event = b.event) && true))) = true) : a = b := by
  cases a; cases b; simp_all
theorem sta_ne {a b : Sta} (h : (decide (a.kind = b.kind) && (decide (a.day = b.day) && (decide (a.event = b.event) && true))) = false) : a ≠ b := by
  rintro rfl; simp at h
section
variable (G : Glob)
set_option maxHeartbeats 4000000 in
theorem f44 : ∀ (a : Itm), a.fit → ∀ b : Itm, Pure G Tryz.prog 44 [.agg a.cs, .agg b.cs] (.bool (decide (a = b))) := by
  refine Itm.ind fun a ih hfit b => ?_
  obtain ⟨h1, h2, h3, h4, h5, h6, h7⟩ := (Itm.fit_eq a).1 hfit
  refine Pure.w c44 fun R hR => ?_
  unfold s44 r44
  (repeat' (first | (with_reducible (first | refine split_case (fun h => ?_) (fun h => ?_) | refine gd_case (fun h => ?_) (fun h => ?_)) <;> (try simp only [Da, Db, Dc, Dd, De, Df, Dg, Dh] at h)) | (with_reducible refine And.intro (by omega) ?_) | (with_reducible refine CALL_pure (f37 G _ _ (by omega)) ?_) | (with_reducible refine CALL_pure (f24 G a.unit h3 b.unit) ?_) | (with_reducible refine CALL_pure (f38 G _ _ (by omega)) ?_) | (with_reducible refine CALL_pure (ih x hx.mem (h7 x hx.mem) y) ?_) | simp -dsimp -implicitDefEqProofs only [EV1, EV2, EV3, EV4, EV5, seval, ↓reduceIte, reduceCtorEq, eq_self, Option.map_some, decide_true, decide_false, EV6, EV7, U.cs_fold, hx.yes, hx.le0, hx.lt', hx.get, hx.row, hw, hy.row, hy.lt'] | simp -dsimp -implicitDefEqProofs only [EV1, EV2, EV3, EV4, EV5, seval, ↓reduceIte, reduceCtorEq, eq_self, Option.map_some, decide_true, decide_false, EV6, EV7, U.cs_fold, hn] | simp -dsimp -implicitDefEqProofs only [EV1, EV2, EV3, EV4, EV5, seval, ↓reduceIte, reduceCtorEq, eq_self, Option.map_some, decide_true, decide_false, EV6, EV7, U.cs_fold] | (with_reducible refine both_case ?_ ?_) | (with_reducible refine same_case ?_) | (refine LK_next hx () ?_ (Weak.rfl' _ _)) | (refine W_list a.by_ (fun i r (c : Unit) => a.by_.length = b.by_.length ∧ decide (a.by_ = b.by_) = decide (r = b.by_.drop i)) (fun i c => [(2, .ref a.cs), (3, .ref b.cs), (5, .int .i64 i)]) (fun _ _ => []) () ⟨by omega, by simp⟩ (Weak.rfl' _ _) (by omega) (fun i x r c hok hx hw => ?_) (fun c hok hn => ?_) <;> (try (obtain ⟨y, r2, hy, hyn, hok⟩ := pair_more hok hx)) )))
  all_goals first
    | (refine RET.eq hR (congrArg AV.bool (Eq.symm (decide_eq_false ?_))); rintro rfl; exact absurd rfl h)
    | (refine RET.eq hR (congrArg AV.bool (Eq.symm (decide_eq_false ?_))); rintro rfl; simp at h; done)
    | skip
  all_goals first
    | (have hbn : decide (a.by_ = b.by_) = false := by rw [hok]; simp [h]
       refine RET.eq hR (congrArg AV.bool (Eq.symm (decide_eq_false ?_))); rintro rfl; simp at hbn; done)
    | (rw [hok, hyn, h]; simp; done)
    | (rw [hok, hyn]; simp [h]; done)
    | (have hby : a.by_ = b.by_ := by have := hok.2; rw [hok.1, List.drop_length] at this; simpa using this
       refine RET.eq hR (congrArg AV.bool (Eq.symm (decide_eq_true ?_)))
       exact Itm.ext' (Classical.not_not.1 (by assumption)) (by assumption) (by assumption) (Classical.not_not.1 (by assumption)) (Classical.not_not.1 (by assumption)) (by assumption) (by assumption) (by assumption) (Classical.not_not.1 (by assumption)) (Classical.not_not.1 (by assumption))
         (sta_eq (by assumption)) (Classical.not_not.1 (by assumption)) (Classical.not_not.1 (by assumption)) (Classical.not_not.1 (by assumption)) (Classical.not_not.1 (by assumption)) hby)
    | trace_state
end
end Go.Av
end

section
namespace Go.Av
open Go Go.RowKit Go.Proofs
set_option linter.unusedSimpArgs false
set_option linter.unusedVariables false

def Itm.just (x : Itm) : Itm :=
  if x.kind = 0 then { iz with wh := x.wh, unit := x.unit } else if x.kind = 2 ∨ x.kind = 3 then { iz with old := x.old, new := x.new, nth := x.nth } else if x.kind = 4 then { iz with new := x.new } else
  if x.kind = 5 then { iz with label := x.label } else if x.kind = 6 then { iz with to_ := x.to_, wh := x.wh } else if x.kind = 7 ∨ x.kind = 8 ∨ x.kind = 9 then { iz with act := x.act, item := x.item, day := x.day } else
  if x.kind = 10 then { iz with event := x.event, day := x.day } else if x.kind = 11 then { iz with act := x.act, item := x.item, by_ := x.by_ } else iz
def Itm.told (x : Itm) : Itm := if x.kind ≤ 6 then { x.just with kind := x.kind, at_ := x.at_, for_ := x.for_, start := x.start } else { x.just with kind := x.kind }

section
variable (G : Glob)
set_option maxHeartbeats 4000000 in
theorem f51 (x : Itm) (h0 : 0 ≤ x.kind) (h11 : x.kind ≤ 11) : Pure G Tryz.prog 51 [.agg x.cs] (.agg x.told.cs) := by
  refine Pure.w c51 fun R hR => ?_
  unfold s51 r51
  have hk : x.kind = 0 ∨ x.kind = 1 ∨ x.kind = 2 ∨ x.kind = 3 ∨ x.kind = 4 ∨ x.kind = 5 ∨ x.kind = 6 ∨ x.kind = 7 ∨ x.kind = 8 ∨ x.kind = 9 ∨ x.kind = 10 ∨ x.kind = 11 := by omega
  rcases hk with hk | hk | hk | hk | hk | hk | hk | hk | hk | hk | hk | hk
  all_goals
    (repeat' (first | simp -dsimp -implicitDefEqProofs only [EV1, EV2, EV3, EV4, EV5, seval, ↓reduceIte, reduceCtorEq, eq_self, Option.map_some, decide_true, decide_false, EV6, EV7, hk, hne] | simp -dsimp -implicitDefEqProofs only [EV1, EV2, EV3, EV4, EV5, seval, ↓reduceIte, reduceCtorEq, eq_self, Option.map_some, decide_true, decide_false, EV6, EV7, hk] | (with_reducible intro blk hblk; (try (have hnx := hblk; simp only [EVK] at hnx; first | (have hne := And.intro hnx hne) | (have hne := hnx))))))
    refine hR _ _ (Or.inr ?_)
    rw [Itm.cs_eq]
    simp [AVleL, AVle1, Itm.told, Itm.just, iz, hk]
end
end Go.Av
end
