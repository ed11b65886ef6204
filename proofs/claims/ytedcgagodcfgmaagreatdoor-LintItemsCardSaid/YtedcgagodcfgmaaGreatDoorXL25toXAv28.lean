/-
  LINT, 25: valid items by the reference.
-/
import Derived.Test.YtedcgagodcfgmaaGreatDoorXL30toXL24
import Derived.Test.YtedcgagodcfgmaaGreatDoorXL20toXAv27
section
namespace Go.Av
open Go Go.RowKit Go.Proofs
set_option linter.unusedSimpArgs false
set_option linter.unusedVariables false

/-- An item whose parts are short. -/
structure Itm.Short1 (x : Itm) : Prop where
  fit : x.fit
  unit : x.unit.Short
  at_ : x.at_.length < 1000000
  to_ : x.to_.length < 1000000
  atl : ∀ s ∈ x.at_, s.label.length < 1000000
  tol : ∀ s ∈ x.to_, s.label.length < 1000000
  old : x.old.length < 1000000
  new : x.new.length < 1000000
  label : x.label.length < 1000000
  for_ : x.for_.length < 1000000
  start : x.start.event.length < 1000000
  event : x.event.length < 1000000

mutual
/-- The same, and all items within. -/
def Itm.Shorts : Itm → Prop
  | ⟨k, a, t, wh, n, u, o, w, l, f, s, ac, it, d, e, b⟩ => Itm.Short1 ⟨k, a, t, wh, n, u, o, w, l, f, s, ac, it, d, e, b⟩ ∧ Itm.Shortss b
def Itm.Shortss : List Itm → Prop
  | [] => True
  | x :: l => Itm.Shorts x ∧ Itm.Shortss l
end
theorem Itm.Shortss_iff : ∀ {us : List Itm}, Itm.Shortss us ↔ ∀ k ∈ us, k.Shorts
  | [] => by simp [Itm.Shortss]
  | u :: us => by simp [Itm.Shortss, Itm.Shortss_iff (us := us)]
theorem Itm.Shorts_eq (x : Itm) : x.Shorts ↔ x.Short1 ∧ ∀ k ∈ x.by_, k.Shorts := by
  cases x
  rw [Itm.Shorts, Itm.Shortss_iff]

def okRow (l : List (List UInt8)) (n : Int) : Bool := seqOk l && decide (n ≤ (l.length : Int))
/-- What a kind's own fields must be; y: whether the item within is valid. -/
def Itm.own (x : Itm) (y : Bool) : Bool :=
  if x.kind = 0 then inR x.wh 0 3 && (bareOk x.unit && (decide (x.unit.kind ≠ 0) && decide ((textOf x.unit).2 = 0)))
  else if x.kind = 2 then okRow x.old 1 && (okRow x.new 0 && inR x.nth 0 256)
  else if x.kind = 3 then okRow x.old 0 && (okRow x.new 1 && (inR x.nth 0 256 && (decide (0 < (x.old.length : Int)) || decide (x.nth = 0))))
  else if x.kind = 4 then okRow x.new 0
  else if x.kind = 5 then labelOk x.label
  else if x.kind = 6 then inR x.wh 0 3 && addrOk x.to_
  else if x.kind = 7 ∨ x.kind = 8 ∨ x.kind = 9 then inR x.act 1 1048576 && (inR x.item (-1) 31 && inR x.day 0 1048576)
  else if x.kind = 10 then nameOk x.event && inR x.day 0 1048576
  else if x.kind = 11 then inR x.act 1 1048576 && (inR x.item 0 31 && y)
  else true
def Itm.pre (x : Itm) : Bool := (inR x.kind 0 11 && decide (x = x.told)) && (decide (6 < x.kind) || (addrOk x.at_ && ((decide (x.for_ = []) || nameOk x.for_) && startOk x.start)))
mutual
def Itm.may : Itm → Bool
  | ⟨k, a, t, wh, n, u, o, w, l, f, s, ac, it, d, e, b⟩ => Itm.pre ⟨k, a, t, wh, n, u, o, w, l, f, s, ac, it, d, e, b⟩ && Itm.own ⟨k, a, t, wh, n, u, o, w, l, f, s, ac, it, d, e, b⟩ (Itm.mayOne b)
def Itm.mayOne : List Itm → Bool
  | [] => false
  | x :: l => (l.isEmpty && inR x.kind 0 6) && Itm.may x
end
theorem Itm.may_eq (x : Itm) : x.may = (x.pre && x.own (Itm.mayOne x.by_)) := by cases x; rw [Itm.may]
theorem Itm.mayOne_cons (x : Itm) (l : List Itm) : Itm.mayOne (x :: l) = ((l.isEmpty && inR x.kind 0 6) && x.may) := by rw [Itm.mayOne]

section
variable (G : Glob)
set_option maxHeartbeats 8000000 in
theorem f20 : ∀ (x : Itm), x.Shorts → Pure G Tryz.prog 20 [.agg x.cs] (.bool x.may) := by
  refine Itm.ind fun x ih hs => ?_
  obtain ⟨q, hby⟩ := (Itm.Shorts_eq x).1 hs
  refine Pure.w c20 fun R hR => ?_
  unfold s20 r20
  rw [Itm.may_eq] at hR
  have hIn := fun n lo hi => f45 G n lo hi
  by_cases hk : 0 ≤ x.kind ∧ x.kind ≤ 11
  · have hT := f51 G x hk.1 hk.2
    have hS := f44 G x q.fit x.told
    have hkk : x.kind = 0 ∨ x.kind = 1 ∨ x.kind = 2 ∨ x.kind = 3 ∨ x.kind = 4 ∨ x.kind = 5 ∨ x.kind = 6 ∨ x.kind = 7 ∨ x.kind = 8 ∨ x.kind = 9 ∨ x.kind = 10 ∨ x.kind = 11 := by omega
    unfold Itm.pre at hR
    generalize decide (x = x.told) = e at *
    have hrow : ∀ l : List (List UInt8), l.length < 1000000 → ∀ n, Pure G Tryz.prog 57 [.lst 1 (l.map srow), .int .i64 n] (.bool (okRow l n)) := fun l hl n => f57 G l n (by omega)
    have hro := hrow _ q.old
    have hrn := hrow _ q.new
    rcases hkk with hk | hk | hk | hk | hk | hk | hk | hk | hk | hk | hk | hk
    all_goals (try (have hne11 : x.kind ≠ 11 := by omega
                    (repeat' (first | (with_reducible refine split_case (fun h => ?_) (fun h => ?_) <;> (try simp only [Da, Db, Dc, Dd, De, Df, Dg, Dh] at h)) | (with_reducible refine gd_case (fun h => ?_) (fun h => ?_) <;> (try simp only [Da, Db, Dc, Dd, De, Df, Dg, Dh] at h)) | (with_reducible refine pick_case (fun h => ?_) (fun h => ?_) <;> (try simp only [Da, Db, Dc, Dd, De, Df, Dg, Dh] at h)) | (with_reducible refine And.intro (by omega) ?_) | (with_reducible refine CALL_pure (hIn _ _ _) ?_) | (with_reducible refine CALL_pure (hT) ?_) | (with_reducible refine CALL_pure (hS) ?_) | (with_reducible refine CALL_pure (hro _) ?_) | (with_reducible refine CALL_pure (hrn _) ?_) | (with_reducible refine CALL_pure (f52 G _ q.at_ q.atl) ?_) | (with_reducible refine CALL_pure (f52 G _ q.to_ q.tol) ?_) | (with_reducible refine CALL_pure (f53 G _) ?_) | (with_reducible refine CALL_pure (f54 G _) ?_) | (with_reducible refine CALL_pure (f55 G x.unit q.unit) ?_) | (with_reducible refine CALL_pure (f56 G x.unit q.unit) ?_) | (with_reducible refine CALL_pure (f58 G _ q.label) ?_) | simp -dsimp -implicitDefEqProofs only [EV1, EV2, EV3, EV4, EV5, seval, ↓reduceIte, reduceCtorEq, eq_self, Option.map_some, decide_true, decide_false, EV6, EV7, hk, U.cs_fold, inR] | (with_reducible intro blk hblk; (try (have hnx := hblk; simp only [EVK] at hnx; first | (have hne := And.intro hnx hne) | (have hne := hnx)))) | (with_reducible refine both_case ?_ ?_) | (with_reducible refine same_case ?_) | (exfalso; omega)))
                    all_goals (try (first
                      | exact absurd h (by decide)
                      | (refine RET.eq hR (congrArg AV.bool ?_); simp [Itm.own, inR, *]; done)
                      | (have hf : x.for_ = [] := Classical.not_not.1 (by assumption)
                         refine RET.eq hR (congrArg AV.bool ?_); simp [Itm.own, inR, hf, *]; done)
                      | (refine RET.eq hR (congrArg AV.bool ?_); simp_all [Itm.own, inR]; done)
                      | (refine RET.eq hR (congrArg AV.bool ?_); simp_all [Itm.own, inR]; omega)))))
    have hR2 := hR
    rw [show x.own (Itm.mayOne x.by_) = (inR x.act 1 1048576 && (inR x.item 0 31 && Itm.mayOne x.by_)) by unfold Itm.own; simp [hk]] at hR
    rcases hb : x.by_ with _ | ⟨y, _ | ⟨z, l⟩⟩
    · rw [hb, Itm.mayOne] at hR
      (repeat' (first | (with_reducible refine split_case (fun h => ?_) (fun h => ?_) <;> (try simp only [Da, Db, Dc, Dd, De, Df, Dg, Dh] at h)) | (with_reducible refine gd_case (fun h => ?_) (fun h => ?_) <;> (try simp only [Da, Db, Dc, Dd, De, Df, Dg, Dh] at h)) | (with_reducible refine pick_case (fun h => ?_) (fun h => ?_) <;> (try simp only [Da, Db, Dc, Dd, De, Df, Dg, Dh] at h)) | (with_reducible refine And.intro (by omega) ?_) | (with_reducible refine CALL_pure (hIn _ _ _) ?_) | (with_reducible refine CALL_pure (hT) ?_) | (with_reducible refine CALL_pure (hS) ?_) | simp -dsimp -implicitDefEqProofs only [EV1, EV2, EV3, EV4, EV5, seval, ↓reduceIte, reduceCtorEq, eq_self, Option.map_some, decide_true, decide_false, EV6, EV7, hk, U.cs_fold, inR, hb, List.map_nil, List.length_nil] | (with_reducible intro blk hblk; (try (have hnx := hblk; simp only [EVK] at hnx; first | (have hne := And.intro hnx hne) | (have hne := hnx)))) | (with_reducible refine both_case ?_ ?_) | (with_reducible refine same_case ?_) | (exfalso; omega)))
      all_goals (refine RET.eq hR (congrArg AV.bool ?_); simp [inR, *]; done)
    · rw [hb, Itm.mayOne_cons] at hR
      have hy := ih y (by rw [hb]; simp) (hby y (by rw [hb]; simp))
      (repeat' (first | (with_reducible refine split_case (fun h => ?_) (fun h => ?_) <;> (try simp only [Da, Db, Dc, Dd, De, Df, Dg, Dh] at h)) | (with_reducible refine gd_case (fun h => ?_) (fun h => ?_) <;> (try simp only [Da, Db, Dc, Dd, De, Df, Dg, Dh] at h)) | (with_reducible refine pick_case (fun h => ?_) (fun h => ?_) <;> (try simp only [Da, Db, Dc, Dd, De, Df, Dg, Dh] at h)) | (with_reducible refine And.intro (by omega) ?_) | (with_reducible refine CALL_pure (hIn _ _ _) ?_) | (with_reducible refine CALL_pure (hT) ?_) | (with_reducible refine CALL_pure (hS) ?_) | (with_reducible refine CALL_pure (hy) ?_) | simp -dsimp -implicitDefEqProofs only [EV1, EV2, EV3, EV4, EV5, seval, ↓reduceIte, reduceCtorEq, eq_self, Option.map_some, decide_true, decide_false, EV6, EV7, hk, U.cs_fold, hb, List.map_cons, List.map_nil, List.length_nil, List.length_cons, List.getD_cons_zero] | (with_reducible intro blk hblk; (try (have hnx := hblk; simp only [EVK] at hnx; first | (have hne := And.intro hnx hne) | (have hne := hnx)))) | (with_reducible refine both_case ?_ ?_) | (with_reducible refine same_case ?_) | (exfalso; omega)))
      all_goals (try (refine RET.eq hR (congrArg AV.bool ?_); simp_all [inR]; done))
      all_goals (refine RET.eq hR (congrArg AV.bool ?_); simp [*]; done)
    · rw [hb, Itm.mayOne_cons] at hR
      (repeat' (first | (with_reducible refine split_case (fun h => ?_) (fun h => ?_) <;> (try simp only [Da, Db, Dc, Dd, De, Df, Dg, Dh] at h)) | (with_reducible refine gd_case (fun h => ?_) (fun h => ?_) <;> (try simp only [Da, Db, Dc, Dd, De, Df, Dg, Dh] at h)) | (with_reducible refine pick_case (fun h => ?_) (fun h => ?_) <;> (try simp only [Da, Db, Dc, Dd, De, Df, Dg, Dh] at h)) | (with_reducible refine And.intro (by omega) ?_) | (with_reducible refine CALL_pure (hIn _ _ _) ?_) | (with_reducible refine CALL_pure (hT) ?_) | (with_reducible refine CALL_pure (hS) ?_) | simp -dsimp -implicitDefEqProofs only [EV1, EV2, EV3, EV4, EV5, seval, ↓reduceIte, reduceCtorEq, eq_self, Option.map_some, decide_true, decide_false, EV6, EV7, hk, U.cs_fold, hb, List.map_cons, List.length_cons] | (with_reducible intro blk hblk; (try (have hnx := hblk; simp only [EVK] at hnx; first | (have hne := And.intro hnx hne) | (have hne := hnx)))) | (with_reducible refine both_case ?_ ?_) | (with_reducible refine same_case ?_) | (exfalso; omega)))
      all_goals (try (refine RET.eq hR (congrArg AV.bool ?_); simp_all [inR]; done))
      all_goals trace_state
  · have hno : inR x.kind 0 11 = false := by unfold inR; simp; omega
    unfold Itm.pre at hR
    rw [hno] at hR
    (repeat' (first | (with_reducible refine split_case (fun h => ?_) (fun h => ?_) <;> (try simp only [Da, Db, Dc, Dd, De, Df, Dg, Dh] at h)) | (with_reducible refine gd_case (fun h => ?_) (fun h => ?_) <;> (try simp only [Da, Db, Dc, Dd, De, Df, Dg, Dh] at h)) | (with_reducible refine pick_case (fun h => ?_) (fun h => ?_) <;> (try simp only [Da, Db, Dc, Dd, De, Df, Dg, Dh] at h)) | (with_reducible refine And.intro (by omega) ?_) | (with_reducible refine CALL_pure (hIn _ _ _) ?_) | simp -dsimp -implicitDefEqProofs only [EV1, EV2, EV3, EV4, EV5, seval, ↓reduceIte, reduceCtorEq, eq_self, Option.map_some, decide_true, decide_false, EV6, EV7, hno] | (with_reducible intro blk hblk; (try (have hnx := hblk; simp only [EVK] at hnx; first | (have hne := And.intro hnx hne) | (have hne := hnx)))) | (with_reducible refine both_case ?_ ?_) | (with_reducible refine same_case ?_) | (exfalso; omega)))
    all_goals (refine RET.eq hR (congrArg AV.bool ?_); simp; done)
end
end Go.Av
end

section
namespace Go.Av
open Go Go.RowKit Go.MapKept
set_option linter.unusedVariables false
set_option linter.unusedSimpArgs false

section
variable {G : Glob} {P : Program} {env : Env} {σ : Store} {K : AV → Store → Prop} {κ : Type} [DecidableEq κ] {kT : TypeId} {val : κ → Value}

theorem find_int (k : Int) : ∀ (l : List Int) (ents : List MapEntry) (i : Nat), ents.map (·.key) = l.map (fun n => Value.int .i64 n) →
    Instr.findNow (.int .i64) (.int .i64 k) ents i = some ((((l.zip ents).zipIdx i).find? fun q => decide (q.1.1 = k)).map fun q => (q.2, q.1.2.val))
  | [], [], i, _ => by simp [Instr.findNow]
  | [], e :: es, i, h => by simp at h
  | b :: l, [], i, h => by simp at h
  | b :: l, e :: es, i, h => by
    simp only [List.map_cons, List.cons.injEq] at h
    simp only [Instr.findNow, h.1, Instr.sameNow, if_true, List.zip_cons_cons, List.zipIdx_cons, List.find?_cons]
    by_cases hb : k = b
    · subst hb; simp
    · have h1 : (k == b) = false := by simpa using hb
      have h2 : decide (b = k) = false := by simp; exact fun e => hb e.symm
      simp only [h1, h2]
      exact find_int k l es (i + 1) h.2

theorem mapK_int (hu : P.underlying kT = some (.int .i64)) : MapK P kT (fun n : Int => Value.int .i64 n) where
  ck em k w := run_checkKey hu (by simp [IsKey]) em 9999
  find k l ents w he := run_findKey hu (find_int k l ents 0 he)
  stays k w := run_keyThatStays (d := .int .i64) (by simp [IsKey])

/-- An entry of a literal. -/
theorem RAW_insert (M : MapK P kT val) {xT eT : TypeId} {x ix y : Operand} {b : Nat} {l : List (κ × AV)} {k : κ} {yv : AV} (hx : (SOpd.of x).eval G env = .sc (.map (some b)))
    (hix : ∀ τ w v, Rep τ w ((SOpd.of ix).eval G env) v → v = val k) (hy : (SOpd.of y).eval G env = yv) (hu : P.underlying xT = some (.map kT eT)) (hg : σ.get b = some (.map (mrows val l)))
    (hk : K undefAV (σ.set b (.map (mrows val (mputs k yv l))))) : RAW G P (.insert xT x ix y) env σ K ⟨⟩ := by
  intro ρ w a o ho hS hE
  have h := RAW_mapUpdate (K := K) M hx hix hy hu hg hk ρ w a { o with op := .mapUpdate xT x ix y } rfl hS hE
  have e : execOp a.eval { o with op := .mapUpdate xT x ix y } = execOp a.eval o := by simp [execOp, ho]
  rwa [e] at h
end
end Go.Av
end
