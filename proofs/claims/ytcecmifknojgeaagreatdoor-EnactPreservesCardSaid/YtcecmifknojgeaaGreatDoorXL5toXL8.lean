/-
  LINT, 5: lists that are compared, searched.
-/
import Derived.Test.YtcecmifknojgeaaGreatDoorXC3toXL4
section
namespace Go.Av
open Go Go.RowKit Go.Proofs
set_option linter.unusedSimpArgs false
set_option linter.unusedVariables false

theorem pair_more {α : Type} [DecidableEq α] {a b : List α} {i : Nat} {x : α} {r : List α} (hok : a.length = b.length ∧ decide (a = b) = decide (x :: r = b.drop i)) (hx : Rest a i x r) :
    ∃ y r', Rest b i y r' ∧ b.drop (i + 1) = r' ∧ decide (a = b) = decide (x :: r = y :: r') := by
  have h1 := hx.lt
  cases hd : b.drop i with
  | nil =>
    have := congrArg List.length hd
    simp at this
    omega
  | cons y r' => exact ⟨y, r', left_cons hd, (left_cons hd).next, by rw [hok.2, hd]⟩

section
variable (G : Glob)

theorem f134 (a b : List (List UInt8)) (ha : a.length < 9000000000000000000) : Pure G Tryz.prog 134 [.lst 1 (a.map srow), .lst 1 (b.map srow)] (.bool (decide (a = b))) := by
  refine Pure.w c134 fun R hR => ?_
  unfold s134 r134
  by_cases hl : a.length = b.length
  · have e0 : decide ((a.length : Int) ≠ (b.length : Int)) = false := by simp [hl]
    (repeat' (first | (with_reducible (refine split_case (fun h => ?_) (fun h => ?_)) <;> (try simp only [Da, Db, Dc, Dw, De, Df, Dg, Dh] at h)) | (with_reducible refine And.intro (by omega) ?_) | simp -dsimp -implicitDefEqProofs only [EVz, seval, ↓reduceIte, reduceCtorEq, EV6, EV7, e0, hx.yes, hx.le0, hx.lt', hx.get, hx.row, hw, hy.row, hy.lt'] | simp -dsimp -implicitDefEqProofs only [EVz, seval, ↓reduceIte, reduceCtorEq, EV6, EV7, e0, hn] | simp -dsimp -implicitDefEqProofs only [EVz, seval, ↓reduceIte, reduceCtorEq, EV6, EV7, e0] | (refine LK_next hx () ?_ (Weak.rfl' _ _)) | (refine W_list (a) (fun i r (c : Unit) => a.length = b.length ∧ decide (a = b) = decide (r = b.drop i)) (fun i c => [(0, .lst 1 (a.map srow)), (1, .lst 1 (b.map srow)), (12, .int .i64 a.length), (13, .int .i64 i)]) (fun _ _ => []) () (by ((simp [*]; done))) (Weak.rfl' _ _) (by omega) (fun i x r c hok hx hw => ?_) (fun c hok hn => ?_) <;> (try (obtain ⟨y, r2, hy, hyn, hok⟩ := pair_more hok hx; skip)) ) | fail))
    (all_goals (first | (refine RET.eq hR ?_; ((simp_all [hl]; done))) | (simp_all [hl]; done)))
  · have e0 : decide ((a.length : Int) ≠ (b.length : Int)) = true := by simp; omega
    have e1 : decide (a = b) = false := by simp; rintro rfl; exact hl rfl
    rw [e1] at hR
    (repeat' (simp -dsimp -implicitDefEqProofs only [EVz, seval, ↓reduceIte, reduceCtorEq, EV6, EV7, e0]))
    (all_goals ((exact RET.eq hR rfl)))
theorem f133 (a b : List Stp) (ha : a.length < 9000000000000000000) : Pure G Tryz.prog 133 [.lst 2 (a.map Stp.cs), .lst 2 (b.map Stp.cs)] (.bool (decide (a = b))) := by
  refine Pure.w c133 fun R hR => ?_
  unfold s133 r133
  by_cases hl : a.length = b.length
  · have e0 : decide ((a.length : Int) ≠ (b.length : Int)) = false := by simp [hl]
    (repeat' (first | (with_reducible (refine split_case (fun h => ?_) (fun h => ?_)) <;> (try simp only [Da, Db, Dc, Dw, De, Df, Dg, Dh] at h)) | (with_reducible refine And.intro (by omega) ?_) | simp -dsimp -implicitDefEqProofs only [EVz, seval, ↓reduceIte, reduceCtorEq, EV6, EV7, e0, hx.yes, hx.le0, hx.lt', hx.get, hx.row, hw, hy.row, hy.lt'] | simp -dsimp -implicitDefEqProofs only [EVz, seval, ↓reduceIte, reduceCtorEq, EV6, EV7, e0, hn] | simp -dsimp -implicitDefEqProofs only [EVz, seval, ↓reduceIte, reduceCtorEq, EV6, EV7, e0] | (refine LK_next hx () ?_ (Weak.rfl' _ _)) | (refine W_list (a) (fun i r (c : Unit) => a.length = b.length ∧ decide (a = b) = decide (r = b.drop i)) (fun i c => [(0, .lst 2 (a.map Stp.cs)), (1, .lst 2 (b.map Stp.cs)), (12, .int .i64 a.length), (13, .int .i64 i)]) (fun _ _ => []) () (by ((simp [*]; done))) (Weak.rfl' _ _) (by omega) (fun i x r c hok hx hw => ?_) (fun c hok hn => ?_) <;> (try (obtain ⟨y, r2, hy, hyn, hok⟩ := pair_more hok hx; (cases x; cases y))) ) | fail))
    (all_goals (first | (refine RET.eq hR ?_; first | (simp_all [hl]; done) | grind) | (simp_all [hl]; done)))
  · have e0 : decide ((a.length : Int) ≠ (b.length : Int)) = true := by simp; omega
    have e1 : decide (a = b) = false := by simp; rintro rfl; exact hl rfl
    rw [e1] at hR
    (repeat' (simp -dsimp -implicitDefEqProofs only [EVz, seval, ↓reduceIte, reduceCtorEq, EV6, EV7, e0]))
    (all_goals ((exact RET.eq hR rfl)))
theorem f46 (a b : List Wd) (ha : a.length < 9000000000000000000) : Pure G Tryz.prog 46 [.lst 4 (a.map Wd.cs), .lst 4 (b.map Wd.cs)] (.bool (decide (a = b))) := by
  refine Pure.w c46 fun R hR => ?_
  unfold s46 r46
  by_cases hl : a.length = b.length
  · have e0 : decide ((a.length : Int) ≠ (b.length : Int)) = false := by simp [hl]
    (repeat' (first | (with_reducible (refine split_case (fun h => ?_) (fun h => ?_)) <;> (try simp only [Da, Db, Dc, Dw, De, Df, Dg, Dh] at h)) | (with_reducible refine And.intro (by omega) ?_) | simp -dsimp -implicitDefEqProofs only [EVz, seval, ↓reduceIte, reduceCtorEq, EV6, EV7, e0, hx.yes, hx.le0, hx.lt', hx.get, hx.row, hw, hy.row, hy.lt'] | simp -dsimp -implicitDefEqProofs only [EVz, seval, ↓reduceIte, reduceCtorEq, EV6, EV7, e0, hn] | simp -dsimp -implicitDefEqProofs only [EVz, seval, ↓reduceIte, reduceCtorEq, EV6, EV7, e0] | (refine LK_next hx () ?_ (Weak.rfl' _ _)) | (refine W_list (a) (fun i r (c : Unit) => a.length = b.length ∧ decide (a = b) = decide (r = b.drop i)) (fun i c => [(0, .lst 4 (a.map Wd.cs)), (1, .lst 4 (b.map Wd.cs)), (12, .int .i64 a.length), (13, .int .i64 i)]) (fun _ _ => []) () (by ((simp [*]; done))) (Weak.rfl' _ _) (by omega) (fun i x r c hok hx hw => ?_) (fun c hok hn => ?_) <;> (try (obtain ⟨y, r2, hy, hyn, hok⟩ := pair_more hok hx; (cases x; cases y))) ) | fail))
    (all_goals (first | (refine RET.eq hR ?_; first | (simp_all [hl]; done) | grind) | (simp_all [hl]; done)))
  · have e0 : decide ((a.length : Int) ≠ (b.length : Int)) = true := by simp; omega
    have e1 : decide (a = b) = false := by simp; rintro rfl; exact hl rfl
    rw [e1] at hR
    (repeat' (simp -dsimp -implicitDefEqProofs only [EVz, seval, ↓reduceIte, reduceCtorEq, EV6, EV7, e0]))
    (all_goals ((exact RET.eq hR rfl)))
end
end Go.Av
end

section
namespace Go.Av
open Go Go.RowKit Go.Proofs
set_option linter.unusedSimpArgs false
set_option linter.unusedVariables false

def idxF {α : Type} (p : α → Bool) : Nat → List α → Int
  | _, [] => -1
  | i, x :: r => if p x then (i : Int) else idxF p (i + 1) r
theorem idxF_ge {α : Type} (p : α → Bool) : ∀ (l : List α) (i : Nat), decide (0 ≤ idxF p i l) = l.any p
  | [], i => rfl
  | x :: r, i => by
    unfold idxF
    cases h : p x with
    | true => simp [h]
    | false => simp [h]; simpa using idxF_ge p r (i + 1)
def seqOk (l : List (List UInt8)) : Bool := decide ((l.length : Int) ≤ 256) && l.all wordOk
def irow (n : Int) : List AV := [.int .i64 n]
theorem irow_eq (n : Int) : irow n = [.int .i64 n] := (rfl)
def brow (c : UInt8) : List AV := [.int .u8 c.toNat]
theorem byteRows_brow (l : List UInt8) : byteRows l = l.map brow := rfl
theorem brow_eq (c : UInt8) : brow c = [.int .u8 c.toNat] := (rfl)
theorem all_any {α : Type} (p : α → Bool) (l : List α) : (!l.any fun x => !p x) = l.all p := by
  induction l with
  | nil => rfl
  | cons x r ih => simp [← ih]

section
variable (G : Glob)

theorem f232 (c : UInt8) : Pure G Tryz.prog 232 [.int .u8 c.toNat] (.bool (!okCh c)) := by
  refine Pure.w c232 fun R hR => ?_
  unfold s232 r232
  (repeat' (first | (with_reducible (refine gd_case (fun h => ?_) (fun h => ?_)) <;> (try simp only [Da, Db, Dc, Dw, De, Df, Dg, Dh] at h)) | simp -dsimp -implicitDefEqProofs only [EVz, seval, ↓reduceIte, reduceCtorEq, EV6, EV7] | fail))
  (all_goals (((refine RET.eq hR ?_; (refine congrArg AV.bool (Bool.eq_iff_iff.2 ?_); simp only [okCh, EVB] at *; omega)))))

theorem f258 (f : Value) (p : UInt8 → Bool) (l : List UInt8) (hl : l.length < 9000000000000000000) (hf : ∀ x ∈ l, VPure G Tryz.prog f [.int .u8 x.toNat] (.bool (p x))) : Pure G Tryz.prog 258 [.lst 1 (l.map brow), .sc f] (.int .i64 (idxF p 0 l)) := by
  refine Pure.w c258 fun R hR => ?_
  unfold s258 r258
  (repeat' (first | (with_reducible (refine split_case (fun h => ?_) (fun h => ?_)) <;> (try simp only [Da, Db, Dc, Dw, De, Df, Dg, Dh] at h)) | simp -dsimp -implicitDefEqProofs only [EVz, seval, ↓reduceIte, reduceCtorEq, EV6, EV7, brow_eq, hx.yes, hx.le0, hx.lt', hx.get, hx.row, hw] | simp -dsimp -implicitDefEqProofs only [EVz, seval, ↓reduceIte, reduceCtorEq, EV6, EV7, brow_eq, hn] | simp -dsimp -implicitDefEqProofs only [EVz, seval, ↓reduceIte, reduceCtorEq, EV6, EV7, brow_eq] | (refine LK_next hx () ?_ (Weak.rfl' _ _)) | (refine W_list (l) (fun i r (c : Unit) => idxF p 0 l = idxF p i r) (fun i c => [(0, .lst 1 (l.map brow)), (1, .sc f), (7, .int .i64 l.length), (8, .int .i64 i)]) (fun _ _ => []) () (by rfl) (Weak.rfl' _ _) (by omega) (fun i x r c hok hx hw => ?_) (fun c hok hn => ?_) ) | (refine CALL_vpure (hf _ hx.mem) ?_) | fail))
  (all_goals (first | (refine RET.eq hR ?_; first | (simp only [idxF, hok, EVC, decide_true, decide_false]; done) | (simp_all [idxF]; done)) | (simp_all [idxF]; done)))
theorem f233 (f : Value) (p : UInt8 → Bool) (l : List UInt8) (hl : l.length < 9000000000000000000) (hf : ∀ x ∈ l, VPure G Tryz.prog f [.int .u8 x.toNat] (.bool (p x))) : Pure G Tryz.prog 233 [.lst 1 (l.map brow), .sc f] (.bool (l.any p)) := by
  refine Pure.w c233 fun R hR => ?_
  unfold s233 r233
  (repeat' (first | (with_reducible refine CALL_pure (f258 G f p l hl hf) ?_) | simp -dsimp -implicitDefEqProofs only [EVz, seval, ↓reduceIte, reduceCtorEq, EV6, EV7] | fail))
  (all_goals (((refine RET.eq hR ?_; ((simp_all [idxF_ge]; done))))))
theorem f231 (f : Value) (p : List UInt8 → Bool) (l : List (List UInt8)) (hl : l.length < 9000000000000000000) (hf : ∀ x ∈ l, VPure G Tryz.prog f [.str x] (.bool (p x))) : Pure G Tryz.prog 231 [.lst 1 (l.map srow), .sc f] (.int .i64 (idxF p 0 l)) := by
  refine Pure.w c231 fun R hR => ?_
  unfold s231 r231
  (repeat' (first | (with_reducible (refine split_case (fun h => ?_) (fun h => ?_)) <;> (try simp only [Da, Db, Dc, Dw, De, Df, Dg, Dh] at h)) | simp -dsimp -implicitDefEqProofs only [EVz, seval, ↓reduceIte, reduceCtorEq, EV6, EV7, hx.yes, hx.le0, hx.lt', hx.get, hx.row, hw] | simp -dsimp -implicitDefEqProofs only [EVz, seval, ↓reduceIte, reduceCtorEq, EV6, EV7, hn] | simp -dsimp -implicitDefEqProofs only [EVz, seval, ↓reduceIte, reduceCtorEq, EV6, EV7] | (refine LK_next hx () ?_ (Weak.rfl' _ _)) | (refine W_list (l) (fun i r (c : Unit) => idxF p 0 l = idxF p i r) (fun i c => [(0, .lst 1 (l.map srow)), (1, .sc f), (7, .int .i64 l.length), (8, .int .i64 i)]) (fun _ _ => []) () (by rfl) (Weak.rfl' _ _) (by omega) (fun i x r c hok hx hw => ?_) (fun c hok hn => ?_) ) | (refine CALL_vpure (hf _ hx.mem) ?_) | fail))
  (all_goals (first | (refine RET.eq hR ?_; first | (simp only [idxF, hok, EVC, decide_true, decide_false]; done) | (simp_all [idxF]; done)) | (simp_all [idxF]; done)))
theorem f205 (f : Value) (p : List UInt8 → Bool) (l : List (List UInt8)) (hl : l.length < 9000000000000000000) (hf : ∀ x ∈ l, VPure G Tryz.prog f [.str x] (.bool (p x))) : Pure G Tryz.prog 205 [.lst 1 (l.map srow), .sc f] (.bool (l.any p)) := by
  refine Pure.w c205 fun R hR => ?_
  unfold s205 r205
  (repeat' (first | (with_reducible refine CALL_pure (f231 G f p l hl hf) ?_) | simp -dsimp -implicitDefEqProofs only [EVz, seval, ↓reduceIte, reduceCtorEq, EV6, EV7] | fail))
  (all_goals (((refine RET.eq hR ?_; ((simp_all [idxF_ge]; done))))))
theorem f249 (f : Value) (p : Wd → Bool) (l : List Wd) (hl : l.length < 9000000000000000000) (hf : ∀ x ∈ l, VPure G Tryz.prog f [.agg x.cs] (.bool (p x))) : Pure G Tryz.prog 249 [.lst 4 (l.map Wd.cs), .sc f] (.int .i64 (idxF p 0 l)) := by
  refine Pure.w c249 fun R hR => ?_
  unfold s249 r249
  (repeat' (first | (with_reducible (refine split_case (fun h => ?_) (fun h => ?_)) <;> (try simp only [Da, Db, Dc, Dw, De, Df, Dg, Dh] at h)) | simp -dsimp -implicitDefEqProofs only [EVz, seval, ↓reduceIte, reduceCtorEq, EV6, EV7, hx.yes, hx.le0, hx.lt', hx.get, hx.row, hw] | simp -dsimp -implicitDefEqProofs only [EVz, seval, ↓reduceIte, reduceCtorEq, EV6, EV7, hn] | simp -dsimp -implicitDefEqProofs only [EVz, seval, ↓reduceIte, reduceCtorEq, EV6, EV7] | (refine LK_next hx () ?_ (Weak.rfl' _ _)) | (refine W_list (l) (fun i r (c : Unit) => idxF p 0 l = idxF p i r) (fun i c => [(0, .lst 4 (l.map Wd.cs)), (1, .sc f), (7, .int .i64 l.length), (8, .int .i64 i)]) (fun _ _ => []) () (by rfl) (Weak.rfl' _ _) (by omega) (fun i x r c hok hx hw => ?_) (fun c hok hn => ?_) ) | (refine CALL_vpure (hf _ hx.mem) ?_) | fail))
  (all_goals (first | (refine RET.eq hR ?_; first | (simp only [idxF, hok, EVC, decide_true, decide_false]; done) | (simp_all [idxF]; done)) | (simp_all [idxF]; done)))
theorem f216 (f : Value) (p : Wd → Bool) (l : List Wd) (hl : l.length < 9000000000000000000) (hf : ∀ x ∈ l, VPure G Tryz.prog f [.agg x.cs] (.bool (p x))) : Pure G Tryz.prog 216 [.lst 4 (l.map Wd.cs), .sc f] (.bool (l.any p)) := by
  refine Pure.w c216 fun R hR => ?_
  unfold s216 r216
  (repeat' (first | (with_reducible refine CALL_pure (f249 G f p l hl hf) ?_) | simp -dsimp -implicitDefEqProofs only [EVz, seval, ↓reduceIte, reduceCtorEq, EV6, EV7] | fail))
  (all_goals (((refine RET.eq hR ?_; ((simp_all [idxF_ge]; done))))))
theorem f208 (l : List Int) (k : Int) (hl : l.length < 9000000000000000000) : Pure G Tryz.prog 208 [.lst 1 (l.map irow), .int .i64 k] (.int .i64 (idxF (fun x => decide (k = x)) 0 l)) := by
  refine Pure.w c208 fun R hR => ?_
  unfold s208 r208
  (repeat' (first | (with_reducible (refine split_case (fun h => ?_) (fun h => ?_)) <;> (try simp only [Da, Db, Dc, Dw, De, Df, Dg, Dh] at h)) | simp -dsimp -implicitDefEqProofs only [EVz, seval, ↓reduceIte, reduceCtorEq, EV6, EV7, irow_eq, hx.yes, hx.le0, hx.lt', hx.get, hx.row, hw] | simp -dsimp -implicitDefEqProofs only [EVz, seval, ↓reduceIte, reduceCtorEq, EV6, EV7, irow_eq, hn] | simp -dsimp -implicitDefEqProofs only [EVz, seval, ↓reduceIte, reduceCtorEq, EV6, EV7, irow_eq] | (refine LK_next hx () ?_ (Weak.rfl' _ _)) | (refine W_list (l) (fun i r (c : Unit) => idxF (fun x => decide (k = x)) 0 l = idxF (fun x => decide (k = x)) i r) (fun i c => [(0, .lst 1 (l.map irow)), (1, .int .i64 k), (7, .int .i64 l.length), (8, .int .i64 i)]) (fun _ _ => []) () (by rfl) (Weak.rfl' _ _) (by omega) (fun i x r c hok hx hw => ?_) (fun c hok hn => ?_) ) | fail))
  (all_goals (first | (refine RET.eq hR ?_; first | (simp only [idxF, hok, EVC, decide_true, decide_false]; done) | (simp_all [idxF]; done)) | (simp_all [idxF]; done)))
theorem f159 (l : List Int) (k : Int) (hl : l.length < 9000000000000000000) : Pure G Tryz.prog 159 [.lst 1 (l.map irow), .int .i64 k] (.bool (l.any fun x => decide (k = x))) := by
  refine Pure.w c159 fun R hR => ?_
  unfold s159 r159
  (repeat' (first | (with_reducible refine CALL_pure (f208 G l k hl) ?_) | simp -dsimp -implicitDefEqProofs only [EVz, seval, ↓reduceIte, reduceCtorEq, EV6, EV7] | fail))
  (all_goals (((refine RET.eq hR ?_; ((simp_all [idxF_ge]; done))))))

theorem f207 (s : List UInt8) : Pure G Tryz.prog 207 [.str s] (.bool (wordOk s)) := by
  refine Pure.w c207 fun R hR => ?_
  unfold s207 r207
  (repeat' (first | (with_reducible (refine gd_case (fun h => ?_) (fun h => ?_)) <;> (try simp only [Da, Db, Dc, Dw, De, Df, Dg, Dh] at h)) | (with_reducible refine CALL_pure (f233 G _ (fun c => !okCh c) s (by omega) (fun x _ => (f232 G x).v)) ?_) | simp -dsimp -implicitDefEqProofs only [EVz, seval, ↓reduceIte, reduceCtorEq, EV6, EV7, byteRows_brow, all_any] | (refine RAW_strBytes (l := s) (elem := 5) rfl (by omega) (by kernel_rfl) (by kernel_rfl) (by kernel_rfl) ?_) | fail))
  all_goals (try have h1 : (1 : Int) ≤ s.length := by have : 0 < s.length := List.length_pos_iff.2 (by assumption); omega)
  (all_goals (first | (refine RET.eq hR ?_; (refine congrArg AV.bool (Bool.eq_iff_iff.2 ?_); simp only [wordOk, all_any, EVB] at *; omega)) | (refine RET.eq hR ?_; ((simp_all [wordOk, all_any]; done)))))
end
end Go.Av
end

section
namespace Go.Av
open Go Go.RowKit Go.Proofs
set_option linter.unusedSimpArgs false
set_option linter.unusedVariables false

theorem appX_one {e : TypeId} {sz bytes : Nat} {σ : Store} {g : Option Nat} {rows ys : List (List AV)} {K : AV → Store → Prop} (κ : Store) (hg : ∀ b, g = some b → σ.get b = some (.tok e (rows.length * sz))) (hb : (rows.length + ys.length) * bytes ≤ 140737488355328)
    (hκ : SubN κ (σ.erase g)) (hk : ∀ g', (∀ b, g' = some b → b ∉ κ.keys) → K (.own g' e sz (rows ++ ys)) (κ ++ tokS g' e ((rows ++ ys).length * sz))) : appX e sz bytes σ g rows ys K := by
  refine ⟨hg, hb, fun g' _ hg' => ⟨κ ++ tokS g' e ((rows ++ ys).length * sz), ⟨?_, ?_⟩, hk g' (fun b hb hm => hg' b hb (keys_sub hκ.1 hm))⟩⟩
  · intro p hp
    rcases List.mem_append.1 hp with hp | hp
    · exact List.mem_append.2 (.inr (hκ.1 p hp))
    · exact List.mem_append.2 (.inl hp)
  · intro hn
    rw [keys_append] at hn ⊢
    obtain ⟨n1, n2, n3⟩ := List.nodup_append.1 hn
    exact List.nodup_append.2 ⟨hκ.2 n2, n1, fun x hx y hy e => n3 y hy x (keys_sub hκ.1 hx) e.symm⟩

theorem app_row {e : TypeId} {sz bytes n m m' : Nat} {τ : Store} {g : Option Nat} {rows : List (List AV)} {cs : List AV} {K : AV → Store → Prop} {b k1 : Nat} (hτ : ∀ d, g = some d → τ.get d = some (.tok e m)) (hr : rows.length = n) (hm : m = n * sz) (hm' : m' = (n + 1) * sz) (hl : cs.length = sz)
    (hb : b ∉ τ.keys) (hn : (n + 1) * bytes ≤ 140737488355328) (hk : ∀ g', K (.own g' e sz (rows ++ [cs])) (tokS g' e m')) :
    ∃ rs : List (List AV), rs.length = 1 ∧ (∀ r ∈ rs, r.length = sz) ∧ rs.flatten = cs ∧ appX e sz bytes ((b, .tok e k1) :: τ) g rows rs K := by
  subst hm hm' hr
  refine ⟨[cs], rfl, by simpa using hl, by simp, appX_one [] (fun d hd => ?_) (by simpa using hn) (SubN.nil _) (fun g' _ => by simpa using hk g')⟩
  have h1 := hτ d hd
  have : ¬ b = d := by
    rintro rfl
    exact hb (List.mem_map.2 ⟨_, Store.get_mem h1, rfl⟩)
  simp only [Store.get, if_neg this]
  exact h1

theorem Weak.sub {G : Glob} {env : Env} {σ σ' : Store} (hs : SubN σ' σ) : Weak G env σ env σ' := fun ρ w tmps hS hE => ⟨hS.subN hs, Ev.of_sub hs.1 w, fun j => Rep.ev (Ev.of_sub hs.1 w) _ _ (hE j)⟩
theorem tok_get {g : Option Nat} {e : TypeId} {k : Nat} : ∀ d, g = some d → (tokS g e k).get d = some (.tok e k) := by
  rintro d rfl; simp [tokS, Store.get]
theorem tok_get_cons {g : Option Nat} {e : TypeId} {k c : Nat} {y : AObj} (hc : c ∉ (tokS g e k).keys) : ∀ d, g = some d → Store.get ((c, y) :: tokS g e k) d = some (.tok e k) := by
  rintro d rfl
  have : ¬ c = d := by rintro rfl; exact hc (by simp [tokS, Store.keys])
  simp [tokS, Store.get, this]
section
variable (G : Glob)

theorem f206 (s : List UInt8) : Pure G Tryz.prog 206 [.str s] (.bool (!wordOk s)) := by
  refine Pure.w c206 fun R hR => ?_
  unfold s206 r206
  (repeat' (first | (with_reducible refine CALL_pure (f207 G _) ?_) | simp -dsimp -implicitDefEqProofs only [EVz, seval, ↓reduceIte, reduceCtorEq, EV6, EV7] | fail))
  (all_goals ((exact RET.eq hR rfl)))
theorem f158 (l : List (List UInt8)) (hl : l.length < 9000000000000000000) : Pure G Tryz.prog 158 [.lst 1 (l.map srow)] (.bool (seqOk l)) := by
  refine Pure.w c158 fun R hR => ?_
  unfold s158 r158
  (repeat' (first | (with_reducible (refine gd_case (fun h => ?_) (fun h => ?_)) <;> (try simp only [Da, Db, Dc, Dw, De, Df, Dg, Dh] at h)) | (with_reducible refine CALL_pure (f205 G _ (fun c => !wordOk c) l hl (fun x _ => (f206 G x).v)) ?_) | simp -dsimp -implicitDefEqProofs only [EVz, seval, ↓reduceIte, reduceCtorEq, EV6, EV7, all_any] | fail))
  (all_goals (first | (refine RET.eq hR ?_; (refine congrArg AV.bool (Bool.eq_iff_iff.2 ?_); simp only [seqOk, all_any, EVB] at *; omega)) | (refine RET.eq hR ?_; ((simp_all [seqOk, all_any]; done)))))
theorem f115 (l : List (List UInt8)) (n : Int) (hl : l.length < 9000000000000000000) : Pure G Tryz.prog 115 [.lst 1 (l.map srow), .int .i64 n] (.bool (seqOk l && decide (n ≤ (l.length : Int)))) := by
  refine Pure.w c115 fun R hR => ?_
  unfold s115 r115
  (repeat' (first | (with_reducible (refine gd_case (fun h => ?_) (fun h => ?_)) <;> (try simp only [Da, Db, Dc, Dw, De, Df, Dg, Dh] at h)) | (with_reducible refine CALL_pure (f158 G _ hl) ?_) | simp -dsimp -implicitDefEqProofs only [EVz, seval, ↓reduceIte, reduceCtorEq, EV6, EV7] | fail))
  (all_goals (((refine RET.eq hR ?_; ((simp_all []; done))))))

def wdOk (w : Wd) : Bool := wordOk w.text
def rowOk (l : List Wd) : Bool := decide ((l.length : Int) ≤ 256) && l.all wdOk

end
end Go.Av
end

section
namespace Go.Av
open Go Go.RowKit Go.Proofs
set_option linter.unusedSimpArgs false
set_option linter.unusedVariables false

theorem all_map_text (l : List Wd) : (l.map Wd.text).all wordOk = l.all wdOk := by simp only [List.all_map]; rfl
theorem seq_texts (l : List Wd) : seqOk (l.map Wd.text) = rowOk l := by unfold seqOk rowOk; rw [all_map_text, List.length_map]

def isDig (c : UInt8) : Bool := decide ((48 : Int) ≤ c.toNat) && decide ((c.toNat : Int) ≤ 57)
def isUp (c : UInt8) : Bool := decide ((65 : Int) ≤ c.toNat) && decide ((c.toNat : Int) ≤ 90)
def isLow (c : UInt8) : Bool := decide ((97 : Int) ≤ c.toNat) && decide ((c.toNat : Int) ≤ 122)
def nameCh (c : UInt8) : Bool := isLow c || (isDig c || decide ((c.toNat : Int) = 45))
def nameOk (s : List UInt8) : Bool := decide ((1 : Int) ≤ s.length) && (decide ((s.length : Int) ≤ 16) && (isLow (s.getD 0 0) && s.all nameCh))
def digN : List UInt8 → Nat
  | [] => 0
  | c :: s => if isDig c then digN s + 1 else 0
theorem digN_le : ∀ s : List UInt8, digN s ≤ s.length
  | [] => Nat.le_refl _
  | c :: s => by unfold digN; have := digN_le s; split <;> simp <;> omega
def labelOk (s : List UInt8) : Bool := decide ((1 : Int) ≤ digN s) && (decide ((digN s : Int) ≤ 4) && (!decide (((s.getD 0 0).toNat : Int) = 48) && (decide (((s.length - digN s : Nat) : Int) ≤ 3) && (s.drop (digN s)).all isUp)))
def stepOk (i : Nat) (s : Stp) : Bool := (decide (i = 0) && (decide (s.kind = 0) && decide (s.label = []))) || (decide (1 ≤ s.kind) && (decide (s.kind ≤ 7) && labelOk s.label))
def stepsOk : Nat → List Stp → Bool
  | _, [] => true
  | i, s :: l => stepOk i s && stepsOk (i + 1) l
def addrOk (p : List Stp) : Bool := decide ((p.length : Int) ≤ 9) && stepsOk 0 p
def startOk (s : Sta) : Bool :=
  if s.kind = 1 then inR s.day 0 1048576 && decide (s.event = []) else if s.kind = 3 then decide (s.day = 0) && nameOk s.event else if s.kind = 0 ∨ s.kind = 2 then decide (s.day = 0) && decide (s.event = []) else false

section
variable (G : Glob)

theorem f85 (l : List Wd) (hl : l.length < 1000000) : Pure G Tryz.prog 85 [.lst 4 (l.map Wd.cs)] (.bool (rowOk l)) := by
  refine Pure.w c85 fun R hR => ?_
  unfold s85 r85
  (repeat' (first | (with_reducible (refine gd_case (fun h => ?_) (fun h => ?_)) <;> (try simp only [Da, Db, Dc, Dw, De, Df, Dg, Dh] at h)) | simp -dsimp -implicitDefEqProofs only [EVz, seval, ↓reduceIte, reduceCtorEq, EV6, EV7, seq_texts, hx.yes, hx.le0, hx.lt', hx.get, hx.row, hw] | simp -dsimp -implicitDefEqProofs only [EVz, seval, ↓reduceIte, reduceCtorEq, EV6, EV7, seq_texts, hn] | simp -dsimp -implicitDefEqProofs only [EVz, seval, ↓reduceIte, reduceCtorEq, EV6, EV7, seq_texts] | (with_reducible intro blk hblk; (try (have hnx := hblk; simp only [EVK] at hnx; (have hne := hnx)))) | (refine W_list (ι := Option Nat) (l) (fun i r c => True) (fun i c => [(0, .lst 4 (l.map Wd.cs)), (3, .own c 9 1 ((l.take i).map (fun w => [AV.str w.text]))), (6, .lst 4 (l.map Wd.cs)), (7, .int .i64 l.length), (8, .int .i64 i)]) (fun i c => tokS c 9 (i)) (none) (by trivial) (Weak.of (by simp [EnvLe, Env.get, AVle, AVle1]) (SubN.refl _)) (by omega) (fun i x r c hok hx hw => ?_) (fun c hok hn => ?_) ) | (refine app_row (n := i) (m' := (i + 1)) (by exact tok_get_cons (by assumption)) (by simp; have := hx.lt; omega) (by omega) (by omega) rfl (by assumption) (by have := hx.lt; omega) (fun gn => ?_)) | (refine LK_next hx gn ?_ (by simp only [hx.take, List.map_append, List.map_cons, List.map_nil]; exact Weak.rfl' _ _)) | (refine CALL_pure_le (f158 G (l.map Wd.text) (by simp; omega)) ⟨.inl (.inr ⟨rfl, by simp [Function.comp_def, srow_eq]⟩), trivial⟩ ?_) | fail))
  (all_goals (first | (exact RET.eq hR rfl) | (refine RET.eq hR ?_; (refine congrArg AV.bool (Bool.eq_iff_iff.2 ?_); simp only [rowOk, EVB] at *; omega))))

end
end Go.Av
end
