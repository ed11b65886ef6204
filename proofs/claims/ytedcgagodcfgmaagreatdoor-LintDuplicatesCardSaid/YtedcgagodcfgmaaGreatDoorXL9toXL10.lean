/-
  LINT, 9: labels, addresses.
-/
import Derived.Test.YtedcgagodcfgmaaGreatDoorXL8
import Derived.Test.YtedcgagodcfgmaaGreatDoorShelf
import Derived.Shelf.Strings.FuncGrows
import Derived.Laws.RangeAny
section
namespace Go.Av
open Go Go.RowKit Go.Proofs
set_option linter.unusedSimpArgs false
set_option linter.unusedVariables false

/-- A loop over what is left of a list from i0 on. -/
theorem W_listF {α ι : Type} {G : Glob} {P : Program} {a : SCode} {Q : Exit → Env → Store → Prop} {tQ : Tag Q} {env : Env} {σ : Store} (l : List α) (i0 : Nat) (ok : Nat → List α → ι → Prop) (st : Nat → ι → Env) (ss : Nat → ι → Store) (c0 : ι)
    (hi : i0 ≤ l.length) (h0 : ok i0 (l.drop i0) c0) (hw : Weak G env σ (st i0 c0) (ss i0 c0)) (hl : l.length < 9000000000000000000)
    (more : ∀ i x r c, ok i (x :: r) c → Rest l i x r → IntKind.i64.wrap ((i : Int) + 1) = ((i + 1 : Nat) : Int) → W G P a (NR (LK G l ok st ss i) Q ⟨⟩ ⟨⟩) (st i c) (ss i c) ⟨⟩)
    (fin : ∀ c, ok l.length [] c → decide ((l.length : Int) < (l.length : Int)) = false → W G P a (NR (LK G l ok st ss l.length) Q ⟨⟩ ⟨⟩) (st l.length c) (ss l.length c) ⟨⟩) : W G P (.loop a) Q env σ tQ := by
  refine W_loop (ι := Nat × List α × ι) (fun j => l.drop j.1 = j.2.1 ∧ j.1 ≤ l.length ∧ ok j.1 j.2.1 j.2.2) (fun j => l.length - j.1) (fun j => st j.1 j.2.2) (fun j => ss j.1 j.2.2) (i0, l.drop i0, c0) ⟨rfl, hi, h0⟩ hw ?_
  rintro ⟨i, r, c⟩ ⟨h1, h2, h3⟩
  simp only at h1 h2 h3 ⊢
  cases r with
  | nil =>
    obtain rfl := left_nil h1 h2
    exact fin c h3 (by simp)
  | cons x r =>
    have hx := left_cons h1
    exact more i x r c h3 hx (wrap_up (by have := hx.lt; omega))

/-- Where the first byte is of which p holds, for a test that holds of every rune beyond ASCII. -/
theorem idxFunc_bytes (p : Nat → Bool) (hp : ∀ n, 128 ≤ n → p n = true) (s : List UInt8) : ∀ (f pos : Nat), pos ≤ s.length → s.length - pos ≤ f →
    Lib.idxFuncFrom p true ⟨⟨s⟩⟩ f pos = idxF (fun c : UInt8 => p c.toNat) pos (s.drop pos)
  | 0, pos, h1, h2 => by
    have : s.drop pos = [] := List.drop_eq_nil_of_le (by omega)
    rw [this]; rfl
  | f + 1, pos, h1, h2 => by
    have hsz : (⟨⟨s⟩⟩ : ByteArray).size = s.length := rfl
    unfold Lib.idxFuncFrom
    rw [hsz]
    by_cases hlt : pos < s.length
    · have hps : pos < (⟨⟨s⟩⟩ : ByteArray).size := hlt
      have e : s.drop pos = s[pos] :: s.drop (pos + 1) := List.drop_eq_getElem_cons hlt
      have eb : (⟨⟨s⟩⟩ : ByteArray)[pos]'hps = s[pos] := rfl
      rw [if_pos hlt, e, idxF]
      by_cases ha : (s[pos]).toNat < 128
      · have hd := decode_ascii (⟨⟨s⟩⟩ : ByteArray) pos hps (by rw [eb]; exact ha)
        rw [hd, eb]
        cases hpc : p (s[pos]).toNat with
        | true => simp
        | false => simp; exact idxFunc_bytes p hp s f (pos + 1) (by omega) (by omega)
      · have hd := decode_high (⟨⟨s⟩⟩ : ByteArray) pos hps (by rw [eb]; omega)
        rw [hp _ hd.1, hp _ (by omega)]
        simp
    · rw [if_neg hlt, List.drop_eq_nil_of_le (by omega)]
      rfl

theorem below_of_ev {w w' : World} (ev : Ev [] w [] w') : Below w.heap.size w w' := ⟨ev.os, ev.tape, ev.output, ev.size, fun k hk => (ev.block k hk (by simp [Store.keys])).1⟩

section
variable (G : Glob)

theorem pred_grows {g : Nat} {p : Nat → Bool} {τ : Store} {w : World} (hS : Sat G τ w) (hg : ∀ n : Nat, Pure G Tryz.prog g [.int .i32 (n : Int)] (.bool (p n))) : PredGrows Tryz.prog g #[] p w := fun W x hx hb => by
  have := (hg x).2 τ W (#[encR x] ++ #[]) (by simpa using Sat.below hS hb) (by simp [RepL, Rep])
  refine this.mono ?_
  rintro e w' ⟨v, r, σ', rfl, ⟨rfl, rfl⟩, _, ev, hr⟩
  simp only [Rep] at hr
  exact ⟨by rw [hr], below_of_ev ev⟩

theorem f213 (g : Nat) (p : Nat → Bool) (s : List UInt8) (eg : ∀ args w, (callFunc g args).run Tryz.prog w = .ok (.enter g args) w) (hp : ∀ n, 128 ≤ n → p n = true) (hg : ∀ n : Nat, Pure G Tryz.prog g [.int .i32 (n : Int)] (.bool (p n))) :
    Pure G Tryz.prog 213 [.str s, .sc (.func (.func g) #[] #[])] (.int .i64 (idxF (fun c : UInt8 => p c.toNat) 0 s)) := by
  refine Pure.of_calls Tryz.func213 (by kernel_rfl) (by kernel_rfl) fun τ w vs hS hA => ?_
  obtain ⟨u, v, rfl, h1, h2⟩ := vs_two hA
  simp only [Rep] at h1 h2
  subst h1 h2
  refine ⟨.int .i64 (idxF (fun c : UInt8 => p c.toNat) 0 s), fun _ _ => by simp only [Rep], ?_⟩
  have h := Any.strings_IndexFunc_grows Tryz.laysGw15 g #[] eg p ⟨⟨s⟩⟩ w (pred_grows G hS hg)
  have e : Lib.idxFunc p true ⟨⟨s⟩⟩ = idxF (fun c : UInt8 => p c.toNat) 0 s := idxFunc_bytes p hp s s.length 0 (by omega) (by omega)
  rw [e] at h
  exact h

theorem f198 (g : Nat) (p : Nat → Bool) (s : List UInt8) (eg : ∀ args w, (callFunc g args).run Tryz.prog w = .ok (.enter g args) w) (hp : ∀ n, 128 ≤ n → p n = true) (hg : ∀ n : Nat, Pure G Tryz.prog g [.int .i32 (n : Int)] (.bool (p n))) :
    Pure G Tryz.prog 198 [.str s, .sc (.func (.func g) #[] #[])] (.bool (s.any fun c : UInt8 => p c.toNat)) := by
  refine Pure.of_calls Tryz.func198 (by kernel_rfl) (by kernel_rfl) fun τ w vs hS hA => ?_
  obtain ⟨u, v, rfl, h1, h2⟩ := vs_two hA
  simp only [Rep] at h1 h2
  subst h1 h2
  refine ⟨.bool (s.any fun c : UInt8 => p c.toNat), fun _ _ => by simp only [Rep], ?_⟩
  have h := Any.strings_ContainsFunc_grows Tryz.laysGw17 g #[] eg p ⟨⟨s⟩⟩ w (pred_grows G hS hg)
  have e : Lib.idxFunc p true ⟨⟨s⟩⟩ = idxF (fun c : UInt8 => p c.toNat) 0 s := idxFunc_bytes p hp s s.length 0 (by omega) (by omega)
  rw [e, idxF_ge] at h
  exact h

def oddDig (n : Nat) : Bool := decide (n < 48) || decide (57 < n)
def oddUp (n : Nat) : Bool := decide (n < 65) || decide (90 < n)
theorem f259 (n : Nat) : Pure G Tryz.prog 259 [.int .i32 (n : Int)] (.bool (oddDig n)) := by
  refine Pure.w c259 fun R hR => ?_
  unfold s259 r259
  (repeat' (first | (with_reducible (refine gd_case (fun h => ?_) (fun h => ?_)) <;> (try simp only [Da, Db, Dc, Dd, De, Df, Dg, Dh] at h)) | simp -dsimp -implicitDefEqProofs only [EV1, EV2, EV3, EV4, EV5, seval, ↓reduceIte, reduceCtorEq, eq_self, Option.map_some, decide_true, decide_false, EV6, EV7]))
  (all_goals (((refine RET.eq hR ?_; (refine congrArg AV.bool (Bool.eq_iff_iff.2 ?_); simp only [oddDig, EVB] at *; omega)))))
theorem f197 (n : Nat) : Pure G Tryz.prog 197 [.int .i32 (n : Int)] (.bool (oddUp n)) := by
  refine Pure.w c197 fun R hR => ?_
  unfold s197 r197
  (repeat' (first | (with_reducible (refine gd_case (fun h => ?_) (fun h => ?_)) <;> (try simp only [Da, Db, Dc, Dd, De, Df, Dg, Dh] at h)) | simp -dsimp -implicitDefEqProofs only [EV1, EV2, EV3, EV4, EV5, seval, ↓reduceIte, reduceCtorEq, eq_self, Option.map_some, decide_true, decide_false, EV6, EV7]))
  (all_goals (((refine RET.eq hR ?_; (refine congrArg AV.bool (Bool.eq_iff_iff.2 ?_); simp only [oddUp, EVB] at *; omega)))))

theorem idxF_dig : ∀ (s : List UInt8) (i : Nat), idxF (fun c : UInt8 => oddDig c.toNat) i s = if digN s < s.length then ((i + digN s : Nat) : Int) else -1
  | [], i => rfl
  | c :: s, i => by
    unfold idxF digN
    have hd : oddDig c.toNat = !isDig c := by
      unfold oddDig isDig
      rw [Bool.eq_iff_iff]
      simp <;> omega
    rw [hd]
    cases h : isDig c with
    | true =>
      simp only [Bool.not_true, if_true, Bool.false_eq_true, if_false]
      rw [idxF_dig s (i + 1)]
      simp only [List.length_cons]
      by_cases hl : digN s < s.length
      · rw [if_pos hl, if_pos (by omega)]; congr 1; omega
      · rw [if_neg hl, if_neg (by omega)]
    | false => simp
theorem any_up (s : List UInt8) : (s.any fun c : UInt8 => oddUp c.toNat) = !(s.all isUp) := by
  induction s with
  | nil => rfl
  | cons c s ih =>
    rw [List.any_cons, List.all_cons, ih]
    have hd : oddUp c.toNat = !isUp c := by
      unfold oddUp isUp
      rw [Bool.eq_iff_iff]
      simp <;> omega
    rw [hd]
    cases isUp c <;> simp

theorem f196 (s : List UInt8) : Pure G Tryz.prog 196 [.str s] (.tup [.str (s.take (digN s)), .str (s.drop (digN s))]) := by
  refine Pure.w c196 fun R hR => ?_
  unfold s196 r196
  have hle := digN_le s
  have hc := f213 G 259 oddDig s (enters_of Tryz.func259 (by kernel_rfl) rfl) (fun n hn => by simp [oddDig]; omega) (fun n => f259 G n)
  rw [idxF_dig s 0, Nat.zero_add] at hc
  by_cases h : digN s < s.length
  · rw [if_pos h] at hc
    (repeat' (first | (with_reducible (refine split_case (fun h => ?_) (fun h => ?_)) <;> (try simp only [Da, Db, Dc, Dd, De, Df, Dg, Dh] at h)) | (with_reducible refine And.intro (by omega) ?_) | (with_reducible refine CALL_pure (hc) ?_) | simp -dsimp -implicitDefEqProofs only [EV1, EV2, EV3, EV4, EV5, seval, ↓reduceIte, reduceCtorEq, eq_self, Option.map_some, decide_true, decide_false, EV6, EV7] | (exfalso; omega)))
    (all_goals (((refine RET.eq hR ?_; ((simp_all []; done))))))
  · rw [if_neg h] at hc
    have e : digN s = s.length := by omega
    rw [e, List.take_length, List.drop_length] at hR
    (repeat' (first | (with_reducible refine CALL_pure (hc) ?_) | simp -dsimp -implicitDefEqProofs only [EV1, EV2, EV3, EV4, EV5, seval, ↓reduceIte, reduceCtorEq, eq_self, Option.map_some, decide_true, decide_false, EV6, EV7]))
    (all_goals ((exact RET.eq hR rfl)))

theorem f132 (s : List UInt8) : Pure G Tryz.prog 132 [.str s] (.bool (labelOk s)) := by
  refine Pure.w c132 fun R hR => ?_
  unfold s132 r132
  have hle := digN_le s
  have hmin : min (digN s) s.length = digN s := Nat.min_eq_left hle
  have hcu := f198 G 197 oddUp (s.drop (digN s)) (enters_of Tryz.func197 (by kernel_rfl) rfl) (fun n hn => by simp [oddUp]; omega) (fun n => f197 G n)
  rw [any_up] at hcu
  by_cases h1 : 1 ≤ digN s
  · have hg : (s.take (digN s)).getD 0 0 = s.getD 0 0 := by simp [List.getD, List.getElem?_take, show 0 < digN s by omega]
    (repeat' (first | (with_reducible (refine gd_case (fun h => ?_) (fun h => ?_)) <;> (try simp only [Da, Db, Dc, Dd, De, Df, Dg, Dh] at h)) | (with_reducible refine And.intro (by omega) ?_) | (with_reducible refine CALL_pure (f196 G s) ?_) | (with_reducible refine CALL_pure (hcu) ?_) | simp -dsimp -implicitDefEqProofs only [EV1, EV2, EV3, EV4, EV5, seval, ↓reduceIte, reduceCtorEq, eq_self, Option.map_some, decide_true, decide_false, EV6, EV7, List.length_take, List.length_drop, hmin, hg, Bool.not_not] | (exfalso; omega)))
    (all_goals (first | (refine RET.eq hR ?_; (refine congrArg AV.bool (Bool.eq_iff_iff.2 ?_); simp only [labelOk, EVB] at *; omega)) | (refine RET.eq hR ?_; ((simp_all [labelOk]; done)))))
  · have hf : labelOk s = false := by simp [labelOk, show ¬ ((1 : Int) ≤ digN s) by omega]
    rw [hf] at hR
    (repeat' (first | (with_reducible (refine gd_case (fun h => ?_) (fun h => ?_)) <;> (try simp only [Da, Db, Dc, Dd, De, Df, Dg, Dh] at h)) | (with_reducible refine And.intro (by omega) ?_) | (with_reducible refine CALL_pure (f196 G s) ?_) | (with_reducible refine CALL_pure (hcu) ?_) | simp -dsimp -implicitDefEqProofs only [EV1, EV2, EV3, EV4, EV5, seval, ↓reduceIte, reduceCtorEq, eq_self, Option.map_some, decide_true, decide_false, EV6, EV7, List.length_take, List.length_drop, hmin] | (exfalso; omega)))
    (all_goals ((exact RET.eq hR rfl)))

theorem f58 (s : List UInt8) (hs : s.length < 1000000) : Pure G Tryz.prog 58 [.str s] (.bool (labelOk s)) := by
  refine Pure.w c58 fun R hR => ?_
  unfold s58 r58
  have hle := digN_le s
  have hw2 : IntKind.i64.wrap ((s.length : Int) - (digN s : Int)) = ((s.length - digN s : Nat) : Int) := by rw [wrap_i64 (by omega) (by omega)]; omega
  (repeat' (first | (with_reducible (first | refine split_case (fun h => ?_) (fun h => ?_) | refine gd_case (fun h => ?_) (fun h => ?_)) <;> (try simp only [Da, Db, Dc, Dd, De, Df, Dg, Dh] at h)) | (with_reducible refine And.intro (by omega) ?_) | (with_reducible refine CALL_pure (f104 G s hs) ?_) | simp -dsimp -implicitDefEqProofs only [EV1, EV2, EV3, EV4, EV5, seval, ↓reduceIte, reduceCtorEq, eq_self, Option.map_some, decide_true, decide_false, EV6, EV7, hw2, hx.yes, hx.le0, hx.lt', hx.get, hx.row, hw] | simp -dsimp -implicitDefEqProofs only [EV1, EV2, EV3, EV4, EV5, seval, ↓reduceIte, reduceCtorEq, eq_self, Option.map_some, decide_true, decide_false, EV6, EV7, hw2, hn] | simp -dsimp -implicitDefEqProofs only [EV1, EV2, EV3, EV4, EV5, seval, ↓reduceIte, reduceCtorEq, eq_self, Option.map_some, decide_true, decide_false, EV6, EV7, hw2] | (refine LK_next hx () ?_ (Weak.rfl' _ _)) | (refine W_listF s (digN s) (fun i r (c : Unit) => (s.drop (digN s)).all isUp = r.all isUp) (fun i c => [(0, .str s), (4, .int .i64 i)]) (fun _ _ => []) () hle rfl (Weak.rfl' _ _) (by omega) (fun i x r c hok hx hw => ?_) (fun c hok hn => ?_) )))
  (all_goals (first | (refine RET.eq hR ?_; (refine congrArg AV.bool (Bool.eq_iff_iff.2 ?_); simp only [labelOk, isUp, EVB] at *; omega)) | (refine RET.eq hR ?_; first | (simp_all [labelOk, isUp]; done) | (simp_all [labelOk, isUp]; omega)) | (simp_all [labelOk, isUp]; done)))
end
end Go.Av
end

section
namespace Go.Av
open Go Go.RowKit Go.Proofs
set_option linter.unusedSimpArgs false
set_option linter.unusedVariables false

section
variable (G : Glob)

theorem f52 (p : List Stp) (hl : p.length < 1000000) (ht : ∀ x ∈ p, x.label.length < 1000000) : Pure G Tryz.prog 52 [.lst 2 (p.map Stp.cs)] (.bool (addrOk p)) := by
  refine Pure.w c52 fun R hR => ?_
  unfold s52 r52
  (repeat' (first | (with_reducible (first | refine split_case (fun h => ?_) (fun h => ?_) | refine gd_case (fun h => ?_) (fun h => ?_)) <;> (try simp only [Da, Db, Dc, Dd, De, Df, Dg, Dh] at h)) | (with_reducible refine CALL_pure (f99 G _ _) ?_) | (with_reducible refine CALL_pure (f58 G _ (ht _ hx.mem)) ?_) | simp -dsimp -implicitDefEqProofs only [EV1, EV2, EV3, EV4, EV5, seval, ↓reduceIte, reduceCtorEq, eq_self, Option.map_some, decide_true, decide_false, EV6, EV7, hx.yes, hx.le0, hx.lt', hx.get, hx.row, hw] | simp -dsimp -implicitDefEqProofs only [EV1, EV2, EV3, EV4, EV5, seval, ↓reduceIte, reduceCtorEq, eq_self, Option.map_some, decide_true, decide_false, EV6, EV7, hn] | simp -dsimp -implicitDefEqProofs only [EV1, EV2, EV3, EV4, EV5, seval, ↓reduceIte, reduceCtorEq, eq_self, Option.map_some, decide_true, decide_false, EV6, EV7] | (refine LK_next hx () ?_ (Weak.rfl' _ _)) | (refine W_list (p) (fun i r (c : Unit) => stepsOk 0 p = stepsOk i r) (fun i c => [(0, .lst 2 (p.map Stp.cs)), (3, .int .i64 i)]) (fun _ _ => []) () (by rfl) (Weak.rfl' _ _) (by omega) (fun i x r c hok hx hw => ?_) (fun c hok hn => ?_) )))
  (all_goals (first | (refine RET.eq hR ?_; (refine congrArg AV.bool (Bool.eq_iff_iff.2 ?_); simp only [addrOk, stepsOk, stepOk, EVB] at *; omega)) | (refine RET.eq hR ?_; first | (simp only [addrOk, stepsOk, stepOk, hok, h, EVC, decide_true, decide_false]; done) | (simp_all [addrOk, stepsOk, stepOk]; done) | (simp_all [addrOk, stepsOk, stepOk]; omega)) | (simp_all [addrOk, stepsOk, stepOk]; done)))

theorem f71 (p : List Stp) (hl : p.length < 1000000) : Pure G Tryz.prog 71 [.lst 2 (p.map Stp.cs)] (.bool (addrOk p)) := by
  refine Pure.w c71 fun R hR => ?_
  unfold s71 r71
  (repeat' (first | (with_reducible (first | refine split_case (fun h => ?_) (fun h => ?_) | refine gd_case (fun h => ?_) (fun h => ?_)) <;> (try simp only [Da, Db, Dc, Dd, De, Df, Dg, Dh] at h)) | (with_reducible refine CALL_pure (f141 G _ _) ?_) | (with_reducible refine CALL_pure (f132 G _) ?_) | simp -dsimp -implicitDefEqProofs only [EV1, EV2, EV3, EV4, EV5, seval, ↓reduceIte, reduceCtorEq, eq_self, Option.map_some, decide_true, decide_false, EV6, EV7, hx.yes, hx.le0, hx.lt', hx.get, hx.row, hw] | simp -dsimp -implicitDefEqProofs only [EV1, EV2, EV3, EV4, EV5, seval, ↓reduceIte, reduceCtorEq, eq_self, Option.map_some, decide_true, decide_false, EV6, EV7, hn] | simp -dsimp -implicitDefEqProofs only [EV1, EV2, EV3, EV4, EV5, seval, ↓reduceIte, reduceCtorEq, eq_self, Option.map_some, decide_true, decide_false, EV6, EV7] | (with_reducible intro blk hblk; (try (have hnx := hblk; simp only [EVK] at hnx; (have hne := hnx)))) | (refine LK_next hx () ?_ (Weak.sub (SubN.nil _))) | (refine W_list (p) (fun i r (c : Unit) => stepsOk 0 p = stepsOk i r) (fun i c => [(0, .lst 2 (p.map Stp.cs)), (5, .lst 2 (p.map Stp.cs)), (6, .int .i64 p.length), (7, .int .i64 i)]) (fun _ _ => []) () (by rfl) (Weak.rfl' _ _) (by omega) (fun i x r c hok hx hw => ?_) (fun c hok hn => ?_) )))
  (all_goals (first | (refine RET.eq hR ?_; first | (simp only [addrOk, stepsOk, stepOk, hok, EVC, decide_true, decide_false]; done) | (simp_all [addrOk, stepsOk, stepOk]; done) | (simp_all [addrOk, stepsOk, stepOk]; omega)) | (simp_all [addrOk, stepsOk, stepOk]; done) | (simp_all [addrOk, stepsOk, stepOk]; omega)))
end
end Go.Av
end
