/-
  LINT, 8: rows of words with marks; names; labels; addresses by the reference.
-/
import Derived.Test.YtedcgagodcfgmaaGreatDoorXL6toXL7
namespace Go.Av
open Go Go.RowKit Go.Proofs
set_option linter.unusedSimpArgs false
set_option linter.unusedVariables false

theorem all_map_text (l : List Wd) : (l.map Wd.text).all wordOk = l.all wdOk := by simp only [List.all_map]; rfl
theorem seq_texts (l : List Wd) : seqOk (l.map Wd.text) = rowOk l := by unfold seqOk rowOk; rw [all_map_text, List.length_map]

def isDig (c : UInt8) : Bool := decide ((48 : Int) ≤ c.toNat) && decide ((c.toNat : Int) ≤ 57)
def isUp (c : UInt8) : Bool := decide ((65 : Int) ≤ c.toNat) && decide ((c.toNat : Int) ≤ 90)
def isLow (c : UInt8) : Bool := decide ((97 : Int) ≤ c.toNat) && decide ((c.toNat : Int) ≤ 122)
def nameCh (c : UInt8) : Bool := isLow c || (isDig c || decide ((c.toNat : Int) = 45))
def nameOk (s : List UInt8) : Bool := decide ((1 : Int) ≤ s.length) && (decide ((s.length : Int) ≤ 16) && (isLow (s.getD 0 0) && s.all nameCh))
def digN : List UInt8 → Nat
  | [] => 0
  | c :: s => if isDig c then digN s + 1 else 0
theorem digN_le : ∀ s : List UInt8, digN s ≤ s.length
  | [] => Nat.le_refl _
  | c :: s => by unfold digN; have := digN_le s; split <;> simp <;> omega
def labelOk (s : List UInt8) : Bool := decide ((1 : Int) ≤ digN s) && (decide ((digN s : Int) ≤ 4) && (!decide (((s.getD 0 0).toNat : Int) = 48) && (decide (((s.length - digN s : Nat) : Int) ≤ 3) && (s.drop (digN s)).all isUp)))
def stepOk (i : Nat) (s : Stp) : Bool := (decide (i = 0) && (decide (s.kind = 0) && decide (s.label = []))) || (decide (1 ≤ s.kind) && (decide (s.kind ≤ 7) && labelOk s.label))
def stepsOk : Nat → List Stp → Bool
  | _, [] => true
  | i, s :: l => stepOk i s && stepsOk (i + 1) l
def addrOk (p : List Stp) : Bool := decide ((p.length : Int) ≤ 9) && stepsOk 0 p
def startOk (s : Sta) : Bool :=
  if s.kind = 1 then inR s.day 0 1048576 && decide (s.event = []) else if s.kind = 3 then decide (s.day = 0) && nameOk s.event else if s.kind = 0 ∨ s.kind = 2 then decide (s.day = 0) && decide (s.event = []) else false

section
variable (G : Glob)

theorem f270 (l : List Wd) (hl : l.length < 1000000) : Pure G Tryz.prog 270 [.lst 4 (l.map Wd.cs)] (.bool (rowOk l)) := by
  refine Pure.w c270 fun R hR => ?_
  unfold s270 r270
  (repeat' (first | (with_reducible (refine gd_case (fun h => ?_) (fun h => ?_)) <;> (try simp only [Da, Db, Dc, Dd, De, Df, Dg, Dh] at h)) | (with_reducible refine CALL_pure (f302 G _ hl) ?_) | (with_reducible refine CALL_pure (f103 G (l.map Wd.text) (by simp; omega)) ?_) | simp -dsimp -implicitDefEqProofs only [EV1, EV2, EV3, EV4, EV5, seval, ↓reduceIte, reduceCtorEq, eq_self, Option.map_some, decide_true, decide_false, EV6, EV7, seq_texts]))
  (all_goals (first | (exact RET.eq hR rfl) | (refine RET.eq hR ?_; (refine congrArg AV.bool (Bool.eq_iff_iff.2 ?_); simp only [rowOk, EVB] at *; omega))))

theorem f271 (l : List Wd) (hl : l.length < 1000000) (ht : ∀ w ∈ l, w.text.length < 1000000) : Pure G Tryz.prog 271 [.lst 4 (l.map Wd.cs)] (.bool (rowOk l)) := by
  refine Pure.w c271 fun R hR => ?_
  unfold s271 r271
  (repeat' (first | (with_reducible (refine split_case (fun h => ?_) (fun h => ?_)) <;> (try simp only [Da, Db, Dc, Dd, De, Df, Dg, Dh] at h)) | (with_reducible refine CALL_pure (f303 G _ (by have := ht _ hx.mem; omega)) ?_) | simp -dsimp -implicitDefEqProofs only [EV1, EV2, EV3, EV4, EV5, seval, ↓reduceIte, reduceCtorEq, eq_self, Option.map_some, decide_true, decide_false, EV6, EV7, hx.yes, hx.le0, hx.lt', hx.get, hx.row, hw] | simp -dsimp -implicitDefEqProofs only [EV1, EV2, EV3, EV4, EV5, seval, ↓reduceIte, reduceCtorEq, eq_self, Option.map_some, decide_true, decide_false, EV6, EV7, hn] | simp -dsimp -implicitDefEqProofs only [EV1, EV2, EV3, EV4, EV5, seval, ↓reduceIte, reduceCtorEq, eq_self, Option.map_some, decide_true, decide_false, EV6, EV7] | (refine LK_next hx () ?_ (Weak.rfl' _ _)) | (refine W_list (l) (fun i r (c : Unit) => l.all wdOk = r.all wdOk) (fun i c => [(0, .lst 4 (l.map Wd.cs)), (3, .int .i64 i)]) (fun _ _ => []) () (by rfl) (Weak.rfl' _ _) (by omega) (fun i x r c hok hx hw => ?_) (fun c hok hn => ?_) )))
  (all_goals (first | (refine RET.eq hR ?_; first | (simp only [rowOk, wdOk, hok, h, EVC, decide_true, decide_false]; done) | (simp only [rowOk, wdOk, hok, EVC, decide_true, decide_false]; done)) | (rw [hok]; simp only [rowOk, wdOk, h, EVC, decide_true, decide_false]; done)))

theorem f321 (l : List Wd) (hl : l.length < 1000000) : Pure G Tryz.prog 321 [.lst 4 (l.map Wd.cs)] (.bool (rowOk l)) := by
  refine Pure.w c321 fun R hR => ?_
  unfold s321 r321
  (repeat' (first | (with_reducible (refine gd_case (fun h => ?_) (fun h => ?_)) <;> (try simp only [Da, Db, Dc, Dd, De, Df, Dg, Dh] at h)) | simp -dsimp -implicitDefEqProofs only [EV1, EV2, EV3, EV4, EV5, seval, ↓reduceIte, reduceCtorEq, eq_self, Option.map_some, decide_true, decide_false, EV6, EV7, seq_texts, hx.yes, hx.le0, hx.lt', hx.get, hx.row, hw] | simp -dsimp -implicitDefEqProofs only [EV1, EV2, EV3, EV4, EV5, seval, ↓reduceIte, reduceCtorEq, eq_self, Option.map_some, decide_true, decide_false, EV6, EV7, seq_texts, hn] | simp -dsimp -implicitDefEqProofs only [EV1, EV2, EV3, EV4, EV5, seval, ↓reduceIte, reduceCtorEq, eq_self, Option.map_some, decide_true, decide_false, EV6, EV7, seq_texts] | (with_reducible intro blk hblk; (try (have hnx := hblk; simp only [EVK] at hnx; (have hne := hnx)))) | (refine W_list (ι := Option Nat) (l) (fun i r c => True) (fun i c => [(0, .lst 4 (l.map Wd.cs)), (3, .own c 9 1 ((l.take i).map (fun w => [AV.str w.text]))), (6, .lst 4 (l.map Wd.cs)), (7, .int .i64 l.length), (8, .int .i64 i)]) (fun i c => tokS c 9 (i)) (none) (by trivial) (Weak.of (by simp [EnvLe, Env.get, AVle, AVle1]) (SubN.refl _)) (by omega) (fun i x r c hok hx hw => ?_) (fun c hok hn => ?_) ) | (refine app_row (n := i) (m' := (i + 1)) (by exact tok_get_cons (by assumption)) (by simp; have := hx.lt; omega) (by omega) (by omega) rfl (by assumption) (by have := hx.lt; omega) (fun gn => ?_)) | (refine LK_next hx gn ?_ (by simp only [hx.take, List.map_append, List.map_cons, List.map_nil]; exact Weak.rfl' _ _)) | (refine CALL_pure_le (f195 G (l.map Wd.text) (by simp; omega)) ⟨.inl (.inr ⟨rfl, by simp [Function.comp_def, srow_eq]⟩), trivial⟩ ?_)))
  (all_goals (first | (exact RET.eq hR rfl) | (refine RET.eq hR ?_; (refine congrArg AV.bool (Bool.eq_iff_iff.2 ?_); simp only [rowOk, EVB] at *; omega))))

theorem f53 (s : List UInt8) : Pure G Tryz.prog 53 [.str s] (.bool (nameOk s)) := by
  refine Pure.w c53 fun R hR => ?_
  unfold s53 r53
  (repeat' (first | (with_reducible (first | refine split_case (fun h => ?_) (fun h => ?_) | refine gd_case (fun h => ?_) (fun h => ?_)) <;> (try simp only [Da, Db, Dc, Dd, De, Df, Dg, Dh] at h)) | (with_reducible refine And.intro (by omega) ?_) | simp -dsimp -implicitDefEqProofs only [EV1, EV2, EV3, EV4, EV5, seval, ↓reduceIte, reduceCtorEq, eq_self, Option.map_some, decide_true, decide_false, EV6, EV7, hx.yes, hx.le0, hx.lt', hx.get, hx.row, hw] | simp -dsimp -implicitDefEqProofs only [EV1, EV2, EV3, EV4, EV5, seval, ↓reduceIte, reduceCtorEq, eq_self, Option.map_some, decide_true, decide_false, EV6, EV7, hn] | simp -dsimp -implicitDefEqProofs only [EV1, EV2, EV3, EV4, EV5, seval, ↓reduceIte, reduceCtorEq, eq_self, Option.map_some, decide_true, decide_false, EV6, EV7] | (refine LK_next hx () ?_ (Weak.rfl' _ _)) | (refine W_list (s) (fun i r (c : Unit) => s.all nameCh = r.all nameCh) (fun i c => [(0, .str s), (3, .int .i64 i)]) (fun _ _ => []) () (by rfl) (Weak.rfl' _ _) (by omega) (fun i x r c hok hx hw => ?_) (fun c hok hn => ?_) ) | (exfalso; omega)))
  (all_goals (first | (refine RET.eq hR ?_; (refine congrArg AV.bool (Bool.eq_iff_iff.2 ?_); simp only [nameOk, nameCh, isLow, isDig, EVB] at *; omega)) | (refine RET.eq hR ?_; first | (simp_all [nameOk, nameCh, isLow, isDig]; done) | (simp_all [nameOk, nameCh, isLow, isDig]; omega)) | (rw [hok]; simp only [nameOk, nameCh, isLow, isDig, h, EVC, decide_true, decide_false]; done) | (simp_all [nameOk, nameCh, isLow, isDig]; done)))

theorem f104 (s : List UInt8) (hs : s.length < 1000000) : Pure G Tryz.prog 104 [.str s] (.int .i64 (digN s)) := by
  refine Pure.w c104 fun R hR => ?_
  unfold s104 r104
  (repeat' (first | (with_reducible (first | refine split_case (fun h => ?_) (fun h => ?_) | refine gd_case (fun h => ?_) (fun h => ?_)) <;> (try simp only [Da, Db, Dc, Dd, De, Df, Dg, Dh] at h)) | simp -dsimp -implicitDefEqProofs only [EV1, EV2, EV3, EV4, EV5, seval, ↓reduceIte, reduceCtorEq, eq_self, Option.map_some, decide_true, decide_false, EV6, EV7, hx.yes, hx.le0, hx.lt', hx.get, hx.row, hw] | simp -dsimp -implicitDefEqProofs only [EV1, EV2, EV3, EV4, EV5, seval, ↓reduceIte, reduceCtorEq, eq_self, Option.map_some, decide_true, decide_false, EV6, EV7, hn] | simp -dsimp -implicitDefEqProofs only [EV1, EV2, EV3, EV4, EV5, seval, ↓reduceIte, reduceCtorEq, eq_self, Option.map_some, decide_true, decide_false, EV6, EV7] | (refine LK_next hx () ?_ (Weak.rfl' _ _)) | (refine W_list (s) (fun i r (c : Unit) => digN s = i + digN r) (fun i c => [(0, .str s), (3, .int .i64 i)]) (fun _ _ => []) () (by ((simp; done))) (Weak.rfl' _ _) (by omega) (fun i x r c hok hx hw => ?_) (fun c hok hn => ?_) )))
  · have e : digN s = i + 1 + digN r := by
      rw [hok, digN, if_pos (by simp [isDig]; omega)]
      omega
    exact e
  · have e : digN s = i := by rw [hok, digN, if_neg (by simp [isDig]; omega)]; rfl
    exact RET.eq hR (by rw [e])
  · have e : digN s = i := by rw [hok, digN, if_neg (by simp [isDig]; omega)]; rfl
    exact RET.eq hR (by rw [e])
  · exact RET.eq hR (by rw [hok]; simp [digN])

theorem f54 (s : Sta) : Pure G Tryz.prog 54 [.agg [.int .i64 s.kind, .int .i64 s.day, .str s.event]] (.bool (startOk s)) := by
  refine Pure.w c54 fun R hR => ?_
  unfold s54 r54
  (repeat' (first | (with_reducible (first | refine split_case (fun h => ?_) (fun h => ?_) | refine gd_case (fun h => ?_) (fun h => ?_)) <;> (try simp only [Da, Db, Dc, Dd, De, Df, Dg, Dh] at h)) | (with_reducible refine CALL_pure (f45 G _ _ _) ?_) | (with_reducible refine CALL_pure (f53 G _) ?_) | simp -dsimp -implicitDefEqProofs only [EV1, EV2, EV3, EV4, EV5, seval, ↓reduceIte, reduceCtorEq, eq_self, Option.map_some, decide_true, decide_false, EV6, EV7] | (exfalso; omega)))
  (all_goals (((refine RET.eq hR ?_; ((simp_all [startOk]; done))))))
end
end Go.Av
