/-
  LINT, 9: labels, addresses.
-/
import Derived.Test.YtcecmifknojgeaaGreatDoorXL5toXL8
import Derived.Test.YtcecmifknojgeaaGreatDoorShelf
import Derived.Shelf.Strings.FuncGrows
import Derived.Laws.RangeAny
import Derived.Lib.MinMax
section
namespace Go.Av
open Go Go.RowKit Go.Proofs
set_option linter.unusedSimpArgs false
set_option linter.unusedVariables false

theorem idxFunc_bytes (p : Nat → Bool) (hp : ∀ n, 128 ≤ n → p n = true) (s : List UInt8) : ∀ (f pos : Nat), pos ≤ s.length → s.length - pos ≤ f →
    Lib.idxFuncFrom p true ⟨⟨s⟩⟩ f pos = idxF (fun c : UInt8 => p c.toNat) pos (s.drop pos)
  | 0, pos, h1, h2 => by
    have : s.drop pos = [] := List.drop_eq_nil_of_le (by omega)
    rw [this]; rfl
  | f + 1, pos, h1, h2 => by
    have hsz : (⟨⟨s⟩⟩ : ByteArray).size = s.length := rfl
    unfold Lib.idxFuncFrom
    rw [hsz]
    by_cases hlt : pos < s.length
    · have hps : pos < (⟨⟨s⟩⟩ : ByteArray).size := hlt
      have e : s.drop pos = s[pos] :: s.drop (pos + 1) := List.drop_eq_getElem_cons hlt
      have eb : (⟨⟨s⟩⟩ : ByteArray)[pos]'hps = s[pos] := rfl
      rw [if_pos hlt, e, idxF]
      by_cases ha : (s[pos]).toNat < 128
      · have hd := decode_ascii (⟨⟨s⟩⟩ : ByteArray) pos hps (by rw [eb]; exact ha)
        rw [hd, eb]
        cases hpc : p (s[pos]).toNat with
        | true => simp
        | false => simp; exact idxFunc_bytes p hp s f (pos + 1) (by omega) (by omega)
      · have hd := decode_high (⟨⟨s⟩⟩ : ByteArray) pos hps (by rw [eb]; omega)
        rw [hp _ hd.1, hp _ (by omega)]
        simp
    · rw [if_neg hlt, List.drop_eq_nil_of_le (by omega)]
      rfl

theorem below_of_ev {w w' : World} (ev : Ev [] w [] w') : Below w.heap.size w w' := ⟨ev.os, ev.tape, ev.output, ev.size, fun k hk => (ev.block k hk (by simp [Store.keys])).1⟩

section
variable (G : Glob)

theorem pred_grows {g : Nat} {p : Nat → Bool} {τ : Store} {w : World} (hS : Sat G τ w) (hg : ∀ n : Nat, Pure G Tryz.prog g [.int .i32 (n : Int)] (.bool (p n))) : PredGrows Tryz.prog g #[] p w := fun W x hx hb => by
  have := (hg x).2 τ W (#[encR x] ++ #[]) (by simpa using Sat.below hS hb) (by simp [RepL, Rep])
  refine this.mono ?_
  rintro e w' ⟨v, r, σ', rfl, ⟨rfl, rfl⟩, _, ev, hr⟩
  simp only [Rep] at hr
  exact ⟨by rw [hr], below_of_ev ev⟩

theorem f203 (g : Nat) (p : Nat → Bool) (s : List UInt8) (eg : ∀ args w, (callFunc g args).run Tryz.prog w = .ok (.enter g args) w) (hp : ∀ n, 128 ≤ n → p n = true) (hg : ∀ n : Nat, Pure G Tryz.prog g [.int .i32 (n : Int)] (.bool (p n))) :
    Pure G Tryz.prog 203 [.str s, .sc (.func (.func g) #[] #[])] (.int .i64 (idxF (fun c : UInt8 => p c.toNat) 0 s)) := by
  refine Pure.of_calls Tryz.func203 (by kernel_rfl) (by kernel_rfl) fun τ w vs hS hA => ?_
  obtain ⟨u, v, rfl, h1, h2⟩ := vs_two hA
  simp only [Rep] at h1 h2
  subst h1 h2
  refine ⟨.int .i64 (idxF (fun c : UInt8 => p c.toNat) 0 s), fun _ _ => by simp only [Rep], ?_⟩
  have h := Any.strings_IndexFunc_grows Tryz.laysGw15 g #[] eg p ⟨⟨s⟩⟩ w (pred_grows G hS hg)
  have e : Lib.idxFunc p true ⟨⟨s⟩⟩ = idxF (fun c : UInt8 => p c.toNat) 0 s := idxFunc_bytes p hp s s.length 0 (by omega) (by omega)
  rw [e] at h
  exact h

theorem f157 (g : Nat) (p : Nat → Bool) (s : List UInt8) (eg : ∀ args w, (callFunc g args).run Tryz.prog w = .ok (.enter g args) w) (hp : ∀ n, 128 ≤ n → p n = true) (hg : ∀ n : Nat, Pure G Tryz.prog g [.int .i32 (n : Int)] (.bool (p n))) :
    Pure G Tryz.prog 157 [.str s, .sc (.func (.func g) #[] #[])] (.bool (s.any fun c : UInt8 => p c.toNat)) := by
  refine Pure.of_calls Tryz.func157 (by kernel_rfl) (by kernel_rfl) fun τ w vs hS hA => ?_
  obtain ⟨u, v, rfl, h1, h2⟩ := vs_two hA
  simp only [Rep] at h1 h2
  subst h1 h2
  refine ⟨.bool (s.any fun c : UInt8 => p c.toNat), fun _ _ => by simp only [Rep], ?_⟩
  have h := Any.strings_ContainsFunc_grows Tryz.laysGw17 g #[] eg p ⟨⟨s⟩⟩ w (pred_grows G hS hg)
  have e : Lib.idxFunc p true ⟨⟨s⟩⟩ = idxF (fun c : UInt8 => p c.toNat) 0 s := idxFunc_bytes p hp s s.length 0 (by omega) (by omega)
  rw [e, idxF_ge] at h
  exact h

def oddDig (n : Nat) : Bool := decide (n < 48) || decide (57 < n)
def oddUp (n : Nat) : Bool := decide (n < 65) || decide (90 < n)
theorem f204 (n : Nat) : Pure G Tryz.prog 204 [.int .i32 (n : Int)] (.bool (oddDig n)) := by
  refine Pure.w c204 fun R hR => ?_
  unfold s204 r204
  (repeat' (first | (with_reducible (refine gd_case (fun h => ?_) (fun h => ?_)) <;> (try simp only [Da, Db, Dc, Dw, De, Df, Dg, Dh] at h)) | simp -dsimp -implicitDefEqProofs only [EVz, seval, ↓reduceIte, reduceCtorEq, EV6, EV7] | fail))
  (all_goals (((refine RET.eq hR ?_; (refine congrArg AV.bool (Bool.eq_iff_iff.2 ?_); simp only [oddDig, EVB] at *; omega)))))
theorem f156 (n : Nat) : Pure G Tryz.prog 156 [.int .i32 (n : Int)] (.bool (oddUp n)) := by
  refine Pure.w c156 fun R hR => ?_
  unfold s156 r156
  (repeat' (first | (with_reducible (refine gd_case (fun h => ?_) (fun h => ?_)) <;> (try simp only [Da, Db, Dc, Dw, De, Df, Dg, Dh] at h)) | simp -dsimp -implicitDefEqProofs only [EVz, seval, ↓reduceIte, reduceCtorEq, EV6, EV7] | fail))
  (all_goals (((refine RET.eq hR ?_; (refine congrArg AV.bool (Bool.eq_iff_iff.2 ?_); simp only [oddUp, EVB] at *; omega)))))

theorem idxF_dig : ∀ (s : List UInt8) (i : Nat), idxF (fun c : UInt8 => oddDig c.toNat) i s = if digN s < s.length then ((i + digN s : Nat) : Int) else -1
  | [], i => rfl
  | c :: s, i => by
    unfold idxF digN
    have hd : oddDig c.toNat = !isDig c := by
      unfold oddDig isDig
      rw [Bool.eq_iff_iff]
      simp <;> omega
    rw [hd]
    cases h : isDig c with
    | true =>
      simp only [Bool.not_true, if_true, Bool.false_eq_true, if_false]
      rw [idxF_dig s (i + 1)]
      simp only [List.length_cons]
      by_cases hl : digN s < s.length
      · rw [if_pos hl, if_pos (by omega)]; congr 1; omega
      · rw [if_neg hl, if_neg (by omega)]
    | false => simp
theorem any_up (s : List UInt8) : (s.any fun c : UInt8 => oddUp c.toNat) = !(s.all isUp) := by
  induction s with
  | nil => rfl
  | cons c s ih =>
    rw [List.any_cons, List.all_cons, ih]
    have hd : oddUp c.toNat = !isUp c := by
      unfold oddUp isUp
      rw [Bool.eq_iff_iff]
      simp <;> omega
    rw [hd]
    cases isUp c <;> simp

theorem f155 (s : List UInt8) : Pure G Tryz.prog 155 [.str s] (.tup [.str (s.take (digN s)), .str (s.drop (digN s))]) := by
  refine Pure.w c155 fun R hR => ?_
  unfold s155 r155
  have hle := digN_le s
  have hc := f203 G 204 oddDig s (enters_of Tryz.func204 (by kernel_rfl) rfl) (fun n hn => by simp [oddDig]; omega) (fun n => f204 G n)
  rw [idxF_dig s 0, Nat.zero_add] at hc
  by_cases h : digN s < s.length
  · rw [if_pos h] at hc
    (repeat' (first | (with_reducible (refine split_case (fun h => ?_) (fun h => ?_)) <;> (try simp only [Da, Db, Dc, Dw, De, Df, Dg, Dh] at h)) | (with_reducible refine And.intro (by omega) ?_) | (with_reducible refine CALL_pure (hc) ?_) | simp -dsimp -implicitDefEqProofs only [EVz, seval, ↓reduceIte, reduceCtorEq, EV6, EV7] | (exfalso; omega) | fail))
    (all_goals (((refine RET.eq hR ?_; ((simp_all []; done))))))
  · rw [if_neg h] at hc
    have e : digN s = s.length := by omega
    rw [e, List.take_length, List.drop_length] at hR
    (repeat' (first | (with_reducible refine CALL_pure (hc) ?_) | simp -dsimp -implicitDefEqProofs only [EVz, seval, ↓reduceIte, reduceCtorEq, EV6, EV7] | fail))
    (all_goals ((exact RET.eq hR rfl)))

theorem f84 (s : List UInt8) : Pure G Tryz.prog 84 [.str s] (.bool (labelOk s)) := by
  refine Pure.w c84 fun R hR => ?_
  unfold s84 r84
  have hle := digN_le s
  have hmin : min (digN s) s.length = digN s := Nat.min_eq_left hle
  have hcu := f157 G 156 oddUp (s.drop (digN s)) (enters_of Tryz.func156 (by kernel_rfl) rfl) (fun n hn => by simp [oddUp]; omega) (fun n => f156 G n)
  rw [any_up] at hcu
  by_cases h1 : 1 ≤ digN s
  · have hg : (s.take (digN s)).getD 0 0 = s.getD 0 0 := by simp [List.getD, List.getElem?_take, show 0 < digN s by omega]
    (repeat' (first | (with_reducible (refine gd_case (fun h => ?_) (fun h => ?_)) <;> (try simp only [Da, Db, Dc, Dw, De, Df, Dg, Dh] at h)) | (with_reducible refine And.intro (by omega) ?_) | (with_reducible refine CALL_pure (f155 G s) ?_) | (with_reducible refine CALL_pure (hcu) ?_) | simp -dsimp -implicitDefEqProofs only [EVz, seval, ↓reduceIte, reduceCtorEq, EV6, EV7, List.length_take, List.length_drop, hmin, hg, Bool.not_not] | (exfalso; omega) | fail))
    (all_goals (first | (refine RET.eq hR ?_; (refine congrArg AV.bool (Bool.eq_iff_iff.2 ?_); simp only [labelOk, EVB] at *; omega)) | (refine RET.eq hR ?_; ((simp_all [labelOk]; done)))))
  · have hf : labelOk s = false := by simp [labelOk, show ¬ ((1 : Int) ≤ digN s) by omega]
    rw [hf] at hR
    (repeat' (first | (with_reducible (refine gd_case (fun h => ?_) (fun h => ?_)) <;> (try simp only [Da, Db, Dc, Dw, De, Df, Dg, Dh] at h)) | (with_reducible refine And.intro (by omega) ?_) | (with_reducible refine CALL_pure (f155 G s) ?_) | (with_reducible refine CALL_pure (hcu) ?_) | simp -dsimp -implicitDefEqProofs only [EVz, seval, ↓reduceIte, reduceCtorEq, EV6, EV7, List.length_take, List.length_drop, hmin] | (exfalso; omega) | fail))
    (all_goals ((exact RET.eq hR rfl)))

end
end Go.Av
end

section
namespace Go.Av
open Go Go.RowKit Go.Proofs
set_option linter.unusedSimpArgs false
set_option linter.unusedVariables false

section
variable (G : Glob)

theorem f67 (p : List Stp) (hl : p.length < 1000000) : Pure G Tryz.prog 67 [.lst 2 (p.map Stp.cs)] (.bool (addrOk p)) := by
  refine Pure.w c67 fun R hR => ?_
  unfold s67 r67
  (repeat' (first | (with_reducible (first | refine split_case (fun h => ?_) (fun h => ?_) | refine gd_case (fun h => ?_) (fun h => ?_)) <;> (try simp only [Da, Db, Dc, Dw, De, Df, Dg, Dh] at h)) | (with_reducible refine CALL_pure (f131 G _ _) ?_) | (with_reducible refine CALL_pure (f84 G _) ?_) | simp -dsimp -implicitDefEqProofs only [EVz, seval, ↓reduceIte, reduceCtorEq, EV6, EV7, hx.yes, hx.le0, hx.lt', hx.get, hx.row, hw] | simp -dsimp -implicitDefEqProofs only [EVz, seval, ↓reduceIte, reduceCtorEq, EV6, EV7, hn] | simp -dsimp -implicitDefEqProofs only [EVz, seval, ↓reduceIte, reduceCtorEq, EV6, EV7] | (with_reducible intro blk hblk; (try (have hnx := hblk; simp only [EVK] at hnx; (have hne := hnx)))) | (refine LK_next hx () ?_ (Weak.sub (SubN.nil _))) | (refine W_list (p) (fun i r (c : Unit) => stepsOk 0 p = stepsOk i r) (fun i c => [(0, .lst 2 (p.map Stp.cs)), (5, .lst 2 (p.map Stp.cs)), (6, .int .i64 p.length), (7, .int .i64 i)]) (fun _ _ => []) () (by rfl) (Weak.rfl' _ _) (by omega) (fun i x r c hok hx hw => ?_) (fun c hok hn => ?_) ) | fail))
  (all_goals (first | (refine RET.eq hR ?_; first | (simp only [addrOk, stepsOk, stepOk, hok, EVC, decide_true, decide_false]; done) | (simp_all [addrOk, stepsOk, stepOk]; done) | (simp_all [addrOk, stepsOk, stepOk]; omega)) | (simp_all [addrOk, stepsOk, stepOk]; done) | (simp_all [addrOk, stepsOk, stepOk]; omega)))
end
end Go.Av
end

section
namespace Go.Av
open Go Go.RowKit Go.Proofs
set_option linter.unusedSimpArgs false
set_option linter.unusedVariables false

def shortW (l : List Wd) : Bool := (l.all fun w => decide ((w.text.length : Int) ≤ 100)) && decide ((l.length : Int) ≤ 300)
mutual
def U.shorts : U → Bool
  | ⟨_, _, l, h, w, ks⟩ => decide ((l.length : Int) ≤ 30) && (shortW h && (shortW w && U.shortss ks))
def U.shortss : List U → Bool
  | [] => true
  | u :: us => U.shorts u && U.shortss us
end
section
variable {G : Glob} {P : Program}
theorem RAW_max {a b : Int} {i j : Nat} {t t' : TypeId} {env : Env} {σ : Store} {K : AV → Store → Prop} (hi : env.get i = .int .i64 a) (hj : env.get j = .int .i64 b) (hk : K (.int .i64 (max a b)) σ) :
    RAW G P (.call (.mk (.builtin .max) #[.tmp i, .tmp j] #[t, t'])) env σ K ⟨⟩ := by
  refine RAW_quiet _ (fun ρ w ac op ho hS hE => ?_) hk
  have h1 := hE i
  have h2 := hE j
  rw [hi] at h1
  rw [hj] at h2
  simp only [Rep] at h1 h2
  refine ⟨.int .i64 (max a b), ?_, by simp only [Rep]⟩
  have e1 : ac.eval (.tmp i) = .int .i64 a := h1
  have e2 : ac.eval (.tmp j) = .int .i64 b := h2
  simp [execOp, ho, resolve, invoke, builtin, e1, e2, Lib.run_max_ints]
end

mutual
def U.fit : U → Prop
  | ⟨_, _, l, h, w, ks⟩ => l.length < 1000000000000000000 ∧ (h.length < 1000000000000000000 ∧ ∀ x ∈ h, x.text.length < 1000000000000000000) ∧ (w.length < 1000000000000000000 ∧ ∀ x ∈ w, x.text.length < 1000000000000000000) ∧ ks.length < 1000000000000000000 ∧ U.fits ks
def U.fits : List U → Prop
  | [] => True
  | u :: us => U.fit u ∧ U.fits us
end
theorem U.fits_iff : ∀ {us : List U}, U.fits us ↔ ∀ k ∈ us, k.fit
  | [] => by simp [U.fits]
  | u :: us => by simp [U.fits, U.fits_iff (us := us)]
theorem U.fit_eq (u : U) : u.fit ↔ u.label.length < 1000000000000000000 ∧ (u.head.length < 1000000000000000000 ∧ ∀ x ∈ u.head, x.text.length < 1000000000000000000) ∧ (u.words.length < 1000000000000000000 ∧ ∀ x ∈ u.words, x.text.length < 1000000000000000000) ∧ u.kids.length < 1000000000000000000 ∧ ∀ k ∈ u.kids, k.fit := by
  cases u
  rw [U.fit, U.fits_iff]

section
variable (G : Glob)

def U.Tame (u : U) : Prop := u.fit ∧ u.flat.length < 1000000
theorem U.flats_mem {us : List U} {k : U} (h : k ∈ us) : k.flat.length ≤ (U.flats us).length := by
  induction us with
  | nil => cases h
  | cons a us ih =>
    rw [U.flats, List.length_append]
    rcases List.mem_cons.1 h with rfl | h
    · omega
    · have := ih h; omega
theorem U.flat_pos (u : U) : 1 ≤ u.flat.length := by rw [U.flat_eq]; simp
theorem U.flats_len (us : List U) : us.length ≤ (U.flats us).length := by
  induction us with
  | nil => simp
  | cons a us ih => rw [U.flats, List.length_append, List.length_cons]; have := a.flat_pos; omega
theorem U.Tame.kid {u k : U} (h : u.Tame) (hk : k ∈ u.kids) : k.Tame := by
  refine ⟨((U.fit_eq u).1 h.1).2.2.2.2 k hk, ?_⟩
  have := U.flats_mem hk
  have h2 := h.2
  rw [U.flat_eq, List.length_cons] at h2
  omega
theorem U.Tame.kids {u : U} (h : u.Tame) : u.kids.length < 1000000 := by
  have := U.flats_len u.kids
  have h2 := h.2
  rw [U.flat_eq, List.length_cons] at h2
  omega

def U.cnt (u : U) : Int := u.flat.length
def U.cnts (us : List U) : Int := (U.flats us).length
theorem U.cnt_eq (u : U) : u.cnt = 1 + U.cnts u.kids := by unfold U.cnt U.cnts; rw [U.flat_eq, List.length_cons]; omega
theorem U.cnts_cons (u : U) (us : List U) : U.cnts (u :: us) = u.cnt + U.cnts us := by unfold U.cnt U.cnts; rw [U.flats, List.length_append]; omega
theorem U.cnts_nil : U.cnts [] = 0 := rfl
theorem U.cnts_ge (us : List U) : 0 ≤ U.cnts us := by unfold U.cnts; omega
theorem U.cnt_ge (u : U) : 1 ≤ u.cnt := by have := u.flat_pos; unfold U.cnt; omega

def U.dep (u : U) : Int := u.deep
def U.deps (us : List U) : Int := U.deeps us
theorem U.dep_eq (u : U) : u.dep = U.deps u.kids := by unfold U.dep U.deps; rw [U.deep_eq]
theorem U.deps_cons (u : U) (us : List U) : U.deps (u :: us) = max (1 + u.dep) (U.deps us) := by unfold U.dep U.deps; rw [U.deeps]; omega
theorem U.deps_nil : U.deps [] = 0 := rfl
theorem U.dep_ge (u : U) : 0 ≤ u.dep := by unfold U.dep; omega
theorem U.dep_cnt : ∀ u : U, u.dep < u.cnt := by
  refine U.ind fun u ih => ?_
  rw [U.dep_eq, U.cnt_eq]
  have key : ∀ us : List U, (∀ k ∈ us, k.dep < k.cnt) → U.deps us ≤ U.cnts us := by
    intro us
    induction us with
    | nil => intro _; simp [U.deps_nil, U.cnts_nil]
    | cons a us iha =>
      intro h
      have h1 := h a (by simp)
      have h2 := iha fun k hk => h k (by simp [hk])
      rw [U.deps_cons, U.cnts_cons]
      have := U.cnts_ge us
      have := U.cnt_ge a
      omega
  have := key u.kids ih
  omega
theorem f54 : ∀ (u : U), u.Tame → Pure G Tryz.prog 54 [.agg u.cs] (.int .i64 u.dep) := by
  refine U.ind fun u ih ht => ?_
  have hkl := ht.kids
  have hd0 : 0 ≤ U.deps u.kids := by rw [← U.dep_eq]; exact u.dep_ge
  refine Pure.w c54 fun R hR => ?_
  unfold s54 r54
  rw [U.dep_eq] at hR
  (repeat' (first | (with_reducible refine CALL_pure (ih x hx.mem (ht.kid hx.mem)) ?_) | simp -dsimp -implicitDefEqProofs only [EVz, seval, ↓reduceIte, reduceCtorEq, EV6, EV7, hx.yes, hx.le0, hx.lt', hx.get, hx.row, hw, hwx] | simp -dsimp -implicitDefEqProofs only [EVz, seval, ↓reduceIte, reduceCtorEq, EV6, EV7, hn] | simp -dsimp -implicitDefEqProofs only [EVz, seval, ↓reduceIte, reduceCtorEq, EV6, EV7] | (with_reducible intro blk hblk; (try (have hnx := hblk; simp only [EVK] at hnx; (have hne := hnx)))) | (refine W_list (ι := Int) (u.kids) (fun i r c => U.deps u.kids = max c (U.deps r) ∧ 0 ≤ c) (fun i c => [(3, .int .i64 c), (7, .lst 8 (u.kids.map U.cs)), (8, .int .i64 u.kids.length), (9, .int .i64 i)]) (fun _ _ => []) (0) (by ((simp; omega))) (Weak.rfl' _ _) (by omega) (fun i x r c hok hx hw => ?_) (fun c hok hn => ?_) <;> (try (have hwx : IntKind.i64.wrap (1 + x.dep) = 1 + x.dep := wrap_i64 (by have := x.dep_ge; omega) (by have h1 := x.dep_cnt; have h2 := (ht.kid hx.mem).2; have h3 : (x.flat.length : Int) = x.cnt := rfl; omega))) ) | (refine LK_next hx _ ?_ (Weak.sub (SubN.nil _))) | (refine RAW_max rfl rfl ?_) | fail))
  · rw [U.deps_cons] at hok; omega
  · exact RET.eq hR (by rw [hok.1, U.deps_nil, Int.max_eq_left hok.2])
end
end Go.Av
end

section
namespace Go.Av
open Go Go.RowKit Go.Proofs
set_option linter.unusedSimpArgs false
set_option linter.unusedVariables false

theorem idd_dec (a b : Idd) : decide (a = b) = (decide (a.act = b.act) && (decide (a.item = b.item) && decide (a.n = b.n))) := by
  cases a; cases b
  rw [Bool.eq_iff_iff]; simp
theorem U.dec (a b : U) : decide (a = b) = ((decide (a.id.act = b.id.act) && (decide (a.id.item = b.id.item) && decide (a.id.n = b.id.n))) && (decide (a.kind = b.kind) && (decide (a.label = b.label) && (decide (a.head = b.head) && (decide (a.words = b.words) && decide (a.kids = b.kids)))))) := by
  rw [← idd_dec]
  cases a; cases b
  rw [Bool.eq_iff_iff]; simp
theorem dec_len {α : Type} [DecidableEq α] {a b : List α} (h : a.length ≠ b.length) : decide (a = b) = false := by
  simp; rintro rfl; exact h rfl
theorem U.fit.kid {u k : U} (h : u.fit) (hk : k ∈ u.kids) : k.fit := ((U.fit_eq u).1 h).2.2.2.2 k hk

section
variable (G : Glob)

theorem f47 (f : Value) (a b : List U) (ha : a.length < 9000000000000000000) (hf : ∀ x ∈ a, ∀ y, VPure G Tryz.prog f [.agg x.cs, .agg y.cs] (.bool (decide (x = y)))) :
    Pure G Tryz.prog 47 [.lst 8 (a.map U.cs), .lst 8 (b.map U.cs), .sc f] (.bool (decide (a = b))) := by
  refine Pure.w c47 fun R hR => ?_
  unfold s47 r47
  by_cases hl : a.length = b.length
  · have e0 : decide ((a.length : Int) ≠ (b.length : Int)) = false := by simp [hl]
    (repeat' (first | (with_reducible (refine split_case (fun h => ?_) (fun h => ?_)) <;> (try simp only [Da, Db, Dc, Dw, De, Df, Dg, Dh] at h)) | (with_reducible refine And.intro (by omega) ?_) | simp -dsimp -implicitDefEqProofs only [EVz, seval, ↓reduceIte, reduceCtorEq, EV6, EV7, e0, hx.yes, hx.le0, hx.lt', hx.get, hx.row, hw, hy.row, hy.lt', hne] | simp -dsimp -implicitDefEqProofs only [EVz, seval, ↓reduceIte, reduceCtorEq, EV6, EV7, e0, hx.yes, hx.le0, hx.lt', hx.get, hx.row, hw, hy.row, hy.lt'] | simp -dsimp -implicitDefEqProofs only [EVz, seval, ↓reduceIte, reduceCtorEq, EV6, EV7, e0, hn] | simp -dsimp -implicitDefEqProofs only [EVz, seval, ↓reduceIte, reduceCtorEq, EV6, EV7, e0] | (with_reducible intro blk hblk; (try (have hnx := hblk; simp only [EVK] at hnx; first | (have hne := And.intro hnx hne) | (have hne := hnx)))) | (refine LK_next hx () ?_ (Weak.sub (SubN.nil _))) | (refine CALL_vpure (hf _ hx.mem y) ?_) | (refine W_list (a) (fun i r (c : Unit) => a.length = b.length ∧ decide (a = b) = decide (r = b.drop i)) (fun i c => [(1, .lst 8 (b.map U.cs)), (2, .sc f), (15, .lst 8 (a.map U.cs)), (16, .int .i64 a.length), (17, .int .i64 i)]) (fun _ _ => []) () (by ((simp [*]; done))) (Weak.rfl' _ _) (by omega) (fun i x r c hok hx hw => ?_) (fun c hok hn => ?_) <;> (try (obtain ⟨y, r2, hy, hyn, hok⟩ := pair_more hok hx)) ) | fail))
    (all_goals (first | (refine RET.eq hR ?_; ((simp_all [hl]; done))) | (simp_all [hl]; done)))
  · have e0 : decide ((a.length : Int) ≠ (b.length : Int)) = true := by simp; omega
    rw [dec_len hl] at hR
    (repeat' (simp -dsimp -implicitDefEqProofs only [EVz, seval, ↓reduceIte, reduceCtorEq, EV6, EV7, e0]))
    (all_goals ((exact RET.eq hR rfl)))

theorem f29 : ∀ (a : U), a.fit → ∀ b : U, Pure G Tryz.prog 29 [.agg a.cs, .agg b.cs] (.bool (decide (a = b))) := by
  refine U.ind fun a ih hfit b => ?_
  have hf := (U.fit_eq a).1 hfit
  have hkl := hf.2.2.2.1
  refine Pure.w c29 fun R hR => ?_
  unfold s29 r29
  rw [U.dec] at hR
  (repeat' (first | (with_reducible (refine gd_case (fun h => ?_) (fun h => ?_)) <;> (try simp only [Da, Db, Dc, Dw, De, Df, Dg, Dh] at h)) | (with_reducible refine CALL_pure (f46 G _ _ (by omega)) ?_) | (with_reducible refine CALL_pure (f47 G _ _ _ (by omega) (fun x hx y => (ih x hx (hfit.kid hx) y).v)) ?_) | simp -dsimp -implicitDefEqProofs only [EVz, seval, ↓reduceIte, reduceCtorEq, EV6, EV7] | fail))
  (all_goals (first | (refine RET.eq hR ?_; (refine congrArg AV.bool (Bool.eq_iff_iff.2 ?_); simp only [EVB] at *; omega)) | (refine RET.eq hR ?_; ((simp_all []; done)))))
end
end Go.Av
end

section
namespace Go.Av
open Go Go.RowKit Go.Proofs
set_option linter.unusedSimpArgs false
set_option linter.unusedVariables false

theorem app_lst {e : TypeId} {sz bytes m m' : Nat} {σ : Store} {g : Option Nat} {rows ys : List (List AV)} {K : AV → Store → Prop} (hτ : ∀ d, g = some d → σ.get d = some (.tok e m)) (hm : m = rows.length * sz) (hm' : m' = (rows ++ ys).length * sz)
    (hn : (rows.length + ys.length) * bytes ≤ 140737488355328) (hk : ∀ g', K (.own g' e sz (rows ++ ys)) (tokS g' e m')) : appX e sz bytes σ g rows ys K := by
  subst hm hm'
  exact appX_one [] hτ hn (SubN.nil _) (fun g' _ => by simpa using hk g')

/-! ### an inner loop over the first elements of a list -/
def U.ids (u : U) : List Idd := u.flat.map U.id
def U.idss (us : List U) : List Idd := (U.flats us).map U.id
theorem U.ids_eq (u : U) : u.ids = u.id :: U.idss u.kids := by unfold U.ids U.idss; rw [U.flat_eq]; rfl
theorem U.idss_cons (u : U) (us : List U) : U.idss (u :: us) = u.ids ++ U.idss us := by unfold U.ids U.idss; rw [U.flats, List.map_append]
theorem U.ids_len (u : U) : u.ids.length = u.flat.length := by simp [U.ids]
def aloneOk (u : U) : Bool :=
  (decide (0 ≤ u.kind) && (decide (u.kind ≤ 7) && (decide ((u.kids.length : Int) ≤ 64) && (rowOk u.head && rowOk u.words)))) &&
  (if u.kind = 0 then decide (u.label = []) && (decide ((u.head.length : Int) = 0) && decide ((u.words.length : Int) = 0)) else labelOk u.label)

section
variable (G : Glob)

def zId : Idd := ⟨0, 0, 0⟩
def idsOk (u : U) : Bool := (u.ids.all fun x => decide (x = zId)) || (decide (decide (u.id = zId) = decide (u.kind = 0)) && decide u.ids.Nodup)

theorem idd_eq (x y : Idd) : (decide (x.act = y.act) && (decide (x.item = y.item) && (decide (x.n = y.n) && true))) = decide (x = y) := by rw [idd_dec, Bool.and_true]
theorem idd_zero (x : Idd) : (decide (x.act = 0) && (decide (x.item = 0) && (decide (x.n = 0) && true))) = decide (x = zId) := idd_eq x zId

def Apart (l : List U) : Prop := (l.map fun k => (k.kind, k.label)).Nodup
instance (l : List U) : Decidable (Apart l) := inferInstanceAs (Decidable (List.Nodup _))
mutual
def U.right : U → Bool
  | ⟨i, k, l, h, w, ks⟩ => aloneOk ⟨i, k, l, h, w, ks⟩ && (U.rights k ks && decide (Apart ks))
def U.rights : Int → List U → Bool
  | _, [] => true
  | k, u :: us => (nests k u.kind && U.right u) && U.rights k us
end
theorem U.right_eq (u : U) : u.right = (aloneOk u && (U.rights u.kind u.kids && decide (Apart u.kids))) := by cases u; rw [U.right]
def U.Short (u : U) : Prop := u.Tame ∧ ∀ x ∈ u.flat, x.label.length < 1000000000000000000 ∧ x.head.length < 1000000 ∧ x.words.length < 1000000 ∧ (∀ w ∈ x.head, w.text.length < 1000000000000000000) ∧ (∀ w ∈ x.words, w.text.length < 1000000000000000000)
theorem U.flat_kid {u k x : U} (hk : k ∈ u.kids) (hx : x ∈ k.flat) : x ∈ u.flat := by
  rw [U.flat_eq]
  refine List.mem_cons_of_mem _ ?_
  have : ∀ us : List U, k ∈ us → x ∈ U.flats us := by
    intro us
    induction us with
    | nil => intro h; cases h
    | cons a us ih =>
      intro h
      rw [U.flats]
      rcases List.mem_cons.1 h with rfl | h
      · exact List.mem_append.2 (.inl hx)
      · exact List.mem_append.2 (.inr (ih h))
  exact this _ hk
theorem U.flat_self (u : U) : u ∈ u.flat := by rw [U.flat_eq]; simp
theorem U.Short.kid {u k : U} (h : u.Short) (hk : k ∈ u.kids) : k.Short := ⟨h.1.kid hk, fun x hx => h.2 x (U.flat_kid hk hx)⟩
theorem apart_no {l : List U} {i : Nat} {x y : U} {r : List U} (hx : Rest l i x r) (hy : y ∈ l.take i) (h1 : y.kind = x.kind) (h2 : y.label = x.label) : ¬ Apart l := by
  intro h
  unfold Apart at h
  have h3 : ((l.take (i + 1)).map fun k => (k.kind, k.label)).Nodup := h.sublist ((List.take_sublist (i + 1) l).map _)
  rw [hx.take, List.map_append] at h3
  exact (List.nodup_append.1 h3).2.2 (y.kind, y.label) (List.mem_map.2 ⟨y, hy, rfl⟩) (x.kind, x.label) (by simp) (by rw [h1, h2])
theorem apart_more {l : List U} {i : Nat} {x : U} {r : List U} (hx : Rest l i x r) (h : Apart (l.take i)) (hn : ∀ y ∈ l.take i, ¬ (y.kind = x.kind ∧ y.label = x.label)) : Apart (l.take (i + 1)) := by
  unfold Apart at *
  rw [hx.take, List.map_append]
  refine List.nodup_append.2 ⟨h, by simp, ?_⟩
  intro a ha b hb e
  obtain ⟨y, hy, rfl⟩ := List.mem_map.1 ha
  have hb : b = (x.kind, x.label) := by simpa using hb
  subst hb
  injection e with e1 e2
  exact hn y hy ⟨e1, e2⟩

def treeOk (u : U) : Bool := u.right && (decide (u.dep ≤ 8) && (decide (u.cnt ≤ 1024) && idsOk u))
end
end Go.Av
end

section
namespace Go.Av
open Go Go.RowKit Go.Proofs
set_option linter.unusedSimpArgs false
set_option linter.unusedVariables false

def Wd.bare (w : Wd) : Wd := ⟨w.text, 0, 0, 0⟩
mutual
def U.strip : U → U
  | ⟨_, k, l, h, w, ks⟩ => ⟨⟨0, 0, 0⟩, k, l, h.map Wd.bare, w.map Wd.bare, U.strips ks⟩
def U.strips : List U → List U
  | [] => []
  | u :: us => U.strip u :: U.strips us
end
theorem U.strips_map : ∀ us : List U, U.strips us = us.map U.strip
  | [] => rfl
  | u :: us => by rw [U.strips, U.strips_map us]; rfl
theorem U.strip_eq (u : U) : u.strip = ⟨⟨0, 0, 0⟩, u.kind, u.label, u.head.map Wd.bare, u.words.map Wd.bare, u.kids.map U.strip⟩ := by cases u; rw [U.strip, U.strips_map]

theorem app_rowK {e : TypeId} {sz bytes n m m' : Nat} {τ : Store} (κ : Store) {g : Option Nat} {rows : List (List AV)} {cs : List AV} {K : List (List AV) → AV → Store → Prop} {b k1 : Nat} (hτ : τ = κ ++ tokS g e m) (hg : ∀ d, g = some d → d ∉ κ.keys) (hr : rows.length = n) (hm : m = n * sz)
    (hm' : m' = (n + 1) * sz) (hl : cs.length = sz) (hb : b ∉ τ.keys) (hn : (n + 1) * bytes ≤ 140737488355328) (hk : ∀ g', (∀ d, g' = some d → d ∉ κ.keys) → K [cs] (.own g' e sz (rows ++ [cs])) (κ ++ tokS g' e m')) :
    ∃ rs : List (List AV), rs.length = 1 ∧ (∀ r ∈ rs, r.length = sz) ∧ rs.flatten = cs ∧ appX e sz bytes ((b, .tok e k1) :: τ) g rows rs (K rs) := by
  subst hm hm' hr hτ
  have hbk : b ∉ κ.keys := fun h => hb (by rw [keys_append]; exact List.mem_append.2 (.inl h))
  refine ⟨[cs], rfl, by simpa using hl, by simp, appX_one κ (fun d hd => ?_) (by simpa using hn) ?_ (fun g' hg' => by simpa using hk g' hg')⟩
  · subst hd
    have h1 : ¬ b = d := by rintro rfl; exact hb (by rw [keys_append]; exact List.mem_append.2 (.inr (by simp [tokS, Store.keys])))
    simp only [Store.get, if_neg h1]
    have h2 := hg d rfl
    clear hb hbk hk hg
    induction κ with
    | nil => simp [tokS, Store.get]
    | cons p κ ih =>
      obtain ⟨c, y⟩ := p
      have h3 : ¬ c = d := by rintro rfl; exact h2 (by simp [Store.keys])
      simp only [List.cons_append, Store.get, if_neg h3]
      exact ih (fun h => h2 (by simp only [Store.keys, List.map_cons, List.mem_cons] at h ⊢; exact .inr h))
  · refine ⟨fun p hp => ?_, fun hn => ?_⟩
    · have hp2 : p ∈ ((b, AObj.tok e k1) :: (κ ++ tokS g e (rows.length * sz))) := List.mem_cons_of_mem _ (List.mem_append.2 (.inl hp))
      cases g with
      | none => exact hp2
      | some d =>
        refine List.mem_filter.2 ⟨hp2, ?_⟩
        have : p.1 ≠ d := fun e => hg d rfl (e ▸ List.mem_map.2 ⟨p, hp, rfl⟩)
        simpa using this
    · have h4 : (Store.keys ((b, AObj.tok e k1) :: (κ ++ tokS g e (rows.length * sz)))).Nodup ∨ True := .inr trivial
      have key : ∀ (σ : Store), κ.keys.Sublist σ.keys → σ.keys.Nodup → κ.keys.Nodup := fun σ h hn => hn.sublist h
      have hsub : κ.keys.Sublist (Store.erase ((b, AObj.tok e k1) :: (κ ++ tokS g e (rows.length * sz))) g).keys := by
        cases g with
        | none => simp only [Store.erase, Store.keys, tokS, List.append_nil, List.map_cons]; exact List.sublist_cons_self _ _
        | some d =>
          have hf : (κ.filter fun p => p.1 ≠ d) = κ := List.filter_eq_self.2 fun p hp => by
            have : p.1 ≠ d := fun e => hg d rfl (e ▸ List.mem_map.2 ⟨p, hp, rfl⟩)
            simpa using this
          simp only [Store.erase, Store.keys]
          refine List.Sublist.map _ ?_
          rw [List.filter_cons, List.filter_append, hf]
          split
          · exact (List.sublist_append_left _ _).trans (List.sublist_cons_self _ _)
          · exact List.sublist_append_left _ _
      exact key _ hsub hn

section
variable (G : Glob)

end
end Go.Av
end

section
namespace Go.Av
open Go Go.RowKit Go.Proofs
set_option linter.unusedSimpArgs false
set_option linter.unusedVariables false

def bareOk (u : U) : Bool := treeOk u && decide (u = u.strip)
def alone11 (u : U) : Bool :=
  if u.kind = 0 then decide (u.label = []) && (decide ((u.head.length : Int) = 0) && decide ((u.words.length : Int) = 0))
  else decide (0 < u.kind) && (decide (u.kind ≤ 7) && (labelOk u.label && (rowOk u.head && rowOk u.words)))
mutual
def U.shape : Int → U → Bool
  | d, ⟨i, k, l, h, w, ks⟩ => ((decide (d ≤ 8) && !(decide (0 < d) && decide (k = 0))) && (alone11 ⟨i, k, l, h, w, ks⟩ && decide ((ks.length : Int) ≤ 64))) && (U.shapes (d + 1) k ks && decide (Apart ks))
def U.shapes : Int → Int → List U → Bool
  | _, _, [] => true
  | d, k, u :: us => (nests k u.kind && U.shape d u) && U.shapes d k us
end
theorem U.shape_eq (u : U) (d : Int) : u.shape d = (((decide (d ≤ 8) && !(decide (0 < d) && decide (u.kind = 0))) && (alone11 u && decide ((u.kids.length : Int) ≤ 64))) && (U.shapes (d + 1) u.kind u.kids && decide (Apart u.kids))) := by cases u; rw [U.shape]
def shapeOk (u : U) : Bool := u.shape 0 && decide (u.cnt ≤ 1024)

section
variable (G : Glob)

end
end Go.Av
end
