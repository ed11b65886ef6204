/-
  LINT, 25: valid items by the reference.
-/
import Derived.Test.YtedcgagodcfgmaaGreatDoorXL46toXL24
import Derived.Test.YtedcgagodcfgmaaGreatDoorXAv26
section
namespace Go.Av
open Go Go.RowKit Go.Proofs
set_option linter.unusedSimpArgs false
set_option linter.unusedVariables false

/-- An item whose parts are short. -/
structure Itm.Short1 (x : Itm) : Prop where
  fit : x.fit
  unit : x.unit.Short
  at_ : x.at_.length < 1000000
  to_ : x.to_.length < 1000000
  atl : ∀ s ∈ x.at_, s.label.length < 1000000
  tol : ∀ s ∈ x.to_, s.label.length < 1000000
  old : x.old.length < 1000000
  new : x.new.length < 1000000
  label : x.label.length < 1000000
  for_ : x.for_.length < 1000000
  start : x.start.event.length < 1000000
  event : x.event.length < 1000000

mutual
/-- The same, and all items within. -/
def Itm.Shorts : Itm → Prop
  | ⟨k, a, t, wh, n, u, o, w, l, f, s, ac, it, d, e, b⟩ => Itm.Short1 ⟨k, a, t, wh, n, u, o, w, l, f, s, ac, it, d, e, b⟩ ∧ Itm.Shortss b
def Itm.Shortss : List Itm → Prop
  | [] => True
  | x :: l => Itm.Shorts x ∧ Itm.Shortss l
end
theorem Itm.Shortss_iff : ∀ {us : List Itm}, Itm.Shortss us ↔ ∀ k ∈ us, k.Shorts
  | [] => by simp [Itm.Shortss]
  | u :: us => by simp [Itm.Shortss, Itm.Shortss_iff (us := us)]
theorem Itm.Shorts_eq (x : Itm) : x.Shorts ↔ x.Short1 ∧ ∀ k ∈ x.by_, k.Shorts := by
  cases x
  rw [Itm.Shorts, Itm.Shortss_iff]

def okRow (l : List (List UInt8)) (n : Int) : Bool := seqOk l && decide (n ≤ (l.length : Int))
/-- What a kind's own fields must be; y: whether the item within is valid. -/
def Itm.own (x : Itm) (y : Bool) : Bool :=
  if x.kind = 0 then inR x.wh 0 3 && (bareOk x.unit && (decide (x.unit.kind ≠ 0) && decide ((textOf x.unit).2 = 0)))
  else if x.kind = 2 then okRow x.old 1 && (okRow x.new 0 && inR x.nth 0 256)
  else if x.kind = 3 then okRow x.old 0 && (okRow x.new 1 && (inR x.nth 0 256 && (decide (0 < (x.old.length : Int)) || decide (x.nth = 0))))
  else if x.kind = 4 then okRow x.new 0
  else if x.kind = 5 then labelOk x.label
  else if x.kind = 6 then inR x.wh 0 3 && addrOk x.to_
  else if x.kind = 7 ∨ x.kind = 8 ∨ x.kind = 9 then inR x.act 1 1048576 && (inR x.item (-1) 31 && inR x.day 0 1048576)
  else if x.kind = 10 then nameOk x.event && inR x.day 0 1048576
  else if x.kind = 11 then inR x.act 1 1048576 && (inR x.item 0 31 && y)
  else true
def Itm.pre (x : Itm) : Bool := (inR x.kind 0 11 && decide (x = x.told)) && (decide (6 < x.kind) || (addrOk x.at_ && ((decide (x.for_ = []) || nameOk x.for_) && startOk x.start)))
mutual
def Itm.may : Itm → Bool
  | ⟨k, a, t, wh, n, u, o, w, l, f, s, ac, it, d, e, b⟩ => Itm.pre ⟨k, a, t, wh, n, u, o, w, l, f, s, ac, it, d, e, b⟩ && Itm.own ⟨k, a, t, wh, n, u, o, w, l, f, s, ac, it, d, e, b⟩ (Itm.mayOne b)
def Itm.mayOne : List Itm → Bool
  | [] => false
  | x :: l => (l.isEmpty && inR x.kind 0 6) && Itm.may x
end
theorem Itm.may_eq (x : Itm) : x.may = (x.pre && x.own (Itm.mayOne x.by_)) := by cases x; rw [Itm.may]
theorem Itm.mayOne_cons (x : Itm) (l : List Itm) : Itm.mayOne (x :: l) = ((l.isEmpty && inR x.kind 0 6) && x.may) := by rw [Itm.mayOne]

section
variable (G : Glob)
set_option maxHeartbeats 8000000 in
theorem f20 : ∀ (x : Itm), x.Shorts → Pure G Tryz.prog 20 [.agg x.cs] (.bool x.may) := by
  refine Itm.ind fun x ih hs => ?_
  obtain ⟨q, hby⟩ := (Itm.Shorts_eq x).1 hs
  refine Pure.w c20 fun R hR => ?_
  unfold s20 r20
  rw [Itm.may_eq] at hR
  have hIn := fun n lo hi => f45 G n lo hi
  by_cases hk : 0 ≤ x.kind ∧ x.kind ≤ 11
  · have hT := f51 G x hk.1 hk.2
    have hS := f44 G x q.fit x.told
    have hkk : x.kind = 0 ∨ x.kind = 1 ∨ x.kind = 2 ∨ x.kind = 3 ∨ x.kind = 4 ∨ x.kind = 5 ∨ x.kind = 6 ∨ x.kind = 7 ∨ x.kind = 8 ∨ x.kind = 9 ∨ x.kind = 10 ∨ x.kind = 11 := by omega
    unfold Itm.pre at hR
    generalize decide (x = x.told) = e at *
    have hrow : ∀ l : List (List UInt8), l.length < 1000000 → ∀ n, Pure G Tryz.prog 57 [.lst 1 (l.map srow), .int .i64 n] (.bool (okRow l n)) := fun l hl n => f57 G l n (by omega)
    have hro := hrow _ q.old
    have hrn := hrow _ q.new
    rcases hkk with hk | hk | hk | hk | hk | hk | hk | hk | hk | hk | hk | hk
    all_goals (try (have hne11 : x.kind ≠ 11 := by omega
                    (repeat' (first | (with_reducible (first | refine split_case (fun h => ?_) (fun h => ?_) | refine gd_case (fun h => ?_) (fun h => ?_)) <;> (try simp only [Da, Db, Dc, Dd, De, Df, Dg, Dh] at h)) | (with_reducible refine CALL_pure (hIn _ _ _) ?_) | (with_reducible refine CALL_pure (hT) ?_) | (with_reducible refine CALL_pure (hS) ?_) | (with_reducible refine CALL_pure (hro _) ?_) | (with_reducible refine CALL_pure (hrn _) ?_) | (with_reducible refine CALL_pure (f52 G _ q.at_ q.atl) ?_) | (with_reducible refine CALL_pure (f52 G _ q.to_ q.tol) ?_) | (with_reducible refine CALL_pure (f53 G _) ?_) | (with_reducible refine CALL_pure (f54 G _) ?_) | (with_reducible refine CALL_pure (f55 G x.unit q.unit) ?_) | (with_reducible refine CALL_pure (f56 G x.unit q.unit) ?_) | (with_reducible refine CALL_pure (f58 G _ q.label) ?_) | simp -dsimp -implicitDefEqProofs only [EV1, EV2, EV3, EV4, EV5, seval, ↓reduceIte, reduceCtorEq, eq_self, Option.map_some, decide_true, decide_false, EV6, EV7, hk, U.cs_fold, inR]))
                    all_goals (try (first
                      | exact absurd h (by decide)
                      | (refine RET.eq hR (congrArg AV.bool ?_); simp [Itm.own, inR, *]; done)
                      | (have hf : x.for_ = [] := Classical.not_not.1 (by assumption)
                         refine RET.eq hR (congrArg AV.bool ?_); simp [Itm.own, inR, hf, *]; done)
                      | (refine RET.eq hR (congrArg AV.bool ?_); simp_all [Itm.own, inR]; done)
                      | (refine RET.eq hR (congrArg AV.bool ?_); simp_all [Itm.own, inR]; omega)))))
    have hR2 := hR
    rw [show x.own (Itm.mayOne x.by_) = (inR x.act 1 1048576 && (inR x.item 0 31 && Itm.mayOne x.by_)) by unfold Itm.own; simp [hk]] at hR
    rcases hb : x.by_ with _ | ⟨y, _ | ⟨z, l⟩⟩
    · rw [hb, Itm.mayOne] at hR
      (repeat' (first | (with_reducible (first | refine split_case (fun h => ?_) (fun h => ?_) | refine gd_case (fun h => ?_) (fun h => ?_)) <;> (try simp only [Da, Db, Dc, Dd, De, Df, Dg, Dh] at h)) | (with_reducible refine CALL_pure (hIn _ _ _) ?_) | (with_reducible refine CALL_pure (hT) ?_) | (with_reducible refine CALL_pure (hS) ?_) | simp -dsimp -implicitDefEqProofs only [EV1, EV2, EV3, EV4, EV5, seval, ↓reduceIte, reduceCtorEq, eq_self, Option.map_some, decide_true, decide_false, EV6, EV7, hk, U.cs_fold, inR, hb, List.map_nil, List.length_nil]))
      all_goals (refine RET.eq hR (congrArg AV.bool ?_); simp [inR, *]; done)
    · rw [hb, Itm.mayOne_cons] at hR
      have hy := ih y (by rw [hb]; simp) (hby y (by rw [hb]; simp))
      (repeat' (first | (with_reducible (first | refine split_case (fun h => ?_) (fun h => ?_) | refine gd_case (fun h => ?_) (fun h => ?_)) <;> (try simp only [Da, Db, Dc, Dd, De, Df, Dg, Dh] at h)) | (with_reducible refine CALL_pure (hIn _ _ _) ?_) | (with_reducible refine CALL_pure (hT) ?_) | (with_reducible refine CALL_pure (hS) ?_) | (with_reducible refine CALL_pure (hy) ?_) | simp -dsimp -implicitDefEqProofs only [EV1, EV2, EV3, EV4, EV5, seval, ↓reduceIte, reduceCtorEq, eq_self, Option.map_some, decide_true, decide_false, EV6, EV7, hk, U.cs_fold, hb, List.map_cons, List.map_nil, List.length_nil, List.length_cons, List.getD_cons_zero]))
      all_goals (try (refine RET.eq hR (congrArg AV.bool ?_); simp_all [inR]; done))
      all_goals (refine RET.eq hR (congrArg AV.bool ?_); simp [*]; done)
    · rw [hb, Itm.mayOne_cons] at hR
      (repeat' (first | (with_reducible (first | refine split_case (fun h => ?_) (fun h => ?_) | refine gd_case (fun h => ?_) (fun h => ?_)) <;> (try simp only [Da, Db, Dc, Dd, De, Df, Dg, Dh] at h)) | (with_reducible refine And.intro (by omega) ?_) | (with_reducible refine CALL_pure (hIn _ _ _) ?_) | (with_reducible refine CALL_pure (hT) ?_) | (with_reducible refine CALL_pure (hS) ?_) | simp -dsimp -implicitDefEqProofs only [EV1, EV2, EV3, EV4, EV5, seval, ↓reduceIte, reduceCtorEq, eq_self, Option.map_some, decide_true, decide_false, EV6, EV7, hk, U.cs_fold, hb, List.map_cons, List.length_cons] | (exfalso; omega)))
      all_goals (try (refine RET.eq hR (congrArg AV.bool ?_); simp_all [inR]; done))
      all_goals trace_state
  · have hno : inR x.kind 0 11 = false := by unfold inR; simp; omega
    unfold Itm.pre at hR
    rw [hno] at hR
    (repeat' (first | (with_reducible refine CALL_pure (hIn _ _ _) ?_) | simp -dsimp -implicitDefEqProofs only [EV1, EV2, EV3, EV4, EV5, seval, ↓reduceIte, reduceCtorEq, eq_self, Option.map_some, decide_true, decide_false, EV6, EV7, hno]))
    all_goals (refine RET.eq hR (congrArg AV.bool ?_); simp; done)
end
end Go.Av
end

section
namespace Go.Av
open Go Go.RowKit Go.Proofs
set_option linter.unusedSimpArgs false
set_option linter.unusedVariables false
def Ac.may (a : Ac) : Bool := inR a.number 1 1048576 && titleOk a.title && inR a.day 0 1048576 && startAct a.start && decide (a.items.length ≤ 32) && a.items.all Itm.may
section
variable (G : Glob)
theorem f17 (a : Ac) (ht : a.title.length < 4294967281) (hl : a.items.length < 9000000000000000000) (hs : ∀ x ∈ a.items, x.Shorts) : Pure G Tryz.prog 17 [.agg a.cs] (.bool a.may) := by
  refine Pure.w c17 fun R hR => ?_
  unfold s17 r17 Ac.cs
  have hT := f46 G a.title ht
  have hS := f47 G a.start
  unfold Ac.may at hR
  generalize titleOk a.title = q1 at *
  generalize startAct a.start = q2 at *
  (repeat' (first | (with_reducible (first | refine split_case (fun h => ?_) (fun h => ?_) | refine gd_case (fun h => ?_) (fun h => ?_)) <;> (try simp only [Da, Db, Dc, Dd, De, Df, Dg, Dh] at h)) | (with_reducible refine CALL_pure (f45 G _ _ _) ?_) | (with_reducible refine CALL_pure (hT) ?_) | (with_reducible refine CALL_pure (hS) ?_) | (with_reducible refine CALL_pure (f20 G _ (hs _ hx.mem)) ?_) | simp -dsimp -implicitDefEqProofs only [EV1, EV2, EV3, EV4, EV5, seval, ↓reduceIte, reduceCtorEq, eq_self, Option.map_some, decide_true, decide_false, EV6, EV7, hx.yes, hx.le0, hx.lt', hx.get, hx.row, hw] | simp -dsimp -implicitDefEqProofs only [EV1, EV2, EV3, EV4, EV5, seval, ↓reduceIte, reduceCtorEq, eq_self, Option.map_some, decide_true, decide_false, EV6, EV7, hn] | simp -dsimp -implicitDefEqProofs only [EV1, EV2, EV3, EV4, EV5, seval, ↓reduceIte, reduceCtorEq, eq_self, Option.map_some, decide_true, decide_false, EV6, EV7] | (refine LK_next hx () ?_ (Weak.rfl' _ _)) | (refine W_list (a.items) (fun i r (c : Unit) => a.items.all Itm.may = r.all Itm.may) (fun i c => [(1, .ref [.int .i64 a.number, .str a.title, .int .i64 a.day, .int .i64 a.start.kind, .int .i64 a.start.day, .str a.start.event, .lst 25 (a.items.map Itm.cs)]), (3, .int .i64 i)]) (fun _ _ => []) () (by rfl) (Weak.rfl' _ _) (by omega) (fun i x r c hok hx hw => ?_) (fun c hok hn => ?_) )))
  (all_goals (first | (refine RET.eq hR ?_; (refine congrArg AV.bool (Bool.eq_iff_iff.2 ?_); simp only [EVB] at *; omega)) | (refine RET.eq hR ?_; first | (simp only [hok, h, EVC, decide_true, decide_false]; done) | (simp_all []; done) | (simp_all []; omega)) | (rw [hok]; simp only [h, EVC, decide_true, decide_false]; done)))
end
end Go.Av
end

section
namespace Go.Av
open Go Go.RowKit
set_option linter.unusedVariables false

section
variable {G : Glob} {P : Program} {σ ρ : Store} {w : World} {env : Env} {K : AV → Store → Prop}
/-- The same, with what is asked of the type in two closed facts. -/
theorem RAW_appendZ {t tx e e' : TypeId} {sz bytes : Nat} {x y : Operand} {rows ys : List (List AV)} {g : Option Nat} {xv : AV}
    (hu : P.underlying t = some (.slice e)) (hk : P.underlying tx = some (.slice e')) (hi : (P.info? e).map (fun i => (i.size, i.bytes)) = some (sz, bytes)) (hz : (zeroT P e).map List.length = some sz) (hpos : sz ≠ 0) (hb0 : bytes ≠ 0)
    (hxv : (SOpd.of x).eval G env = xv) (hW : WS σ e sz xv rows g) (hys : srcX sz ((SOpd.of y).eval G env) fun l => l = ys) (hbytes : (rows.length + ys.length) * bytes ≤ 140737488355328)
    (hk0 : rows = [] → ys = [] → K xv σ)
    (hk1 : ∀ b cap pad, b ∉ (σ.erase g).keys → (rows ++ ys).length ≤ cap → cap ≤ maxLen → (∀ r ∈ rows ++ ys, r.length = sz) → ((rows ++ ys).flatten ++ pad).length = cap * sz →
      K (.sc (.slice (some ⟨b, 0, none⟩) (rows ++ ys).length cap)) ((b, .cells e ((rows ++ ys).flatten ++ pad)) :: σ.erase g)) : RAW G P (.call (.mk (.builtin .append) #[x, y] #[t, tx])) env σ K ⟨⟩ := by
  obtain ⟨i, hi', he⟩ := Option.map_eq_some_iff.1 hi
  obtain ⟨z, hz', hzl⟩ := Option.map_eq_some_iff.1 hz
  simp only [Prod.mk.injEq] at he
  obtain ⟨rfl, rfl⟩ := he
  exact RAW_appendW (ty := 0) hu hk hi' hz' hzl hpos hb0 hxv hW hys hbytes hk0 hk1

end
end Go.Av
end

section
namespace Go.Av
open Go Go.RowKit
set_option linter.unusedVariables false
set_option linter.unusedSimpArgs false

/-- The same, as the walk knows it: the call's own row. -/
def Opn (e : TypeId) (sz : Nat) (rows : List (List AV)) (r : AV) (σ : Store) : Prop := ∃ c, r = .own c e sz rows ∧ σ = tokS c e (rows.length * sz)

section
variable {G : Glob} {P : Program} {k : FuncId} {args : List AV} {e : TypeId} {sz : Nat} {rows : List (List AV)}

theorem RET.opn {c : Option Nat} {σ : Store} (hs : SubN (tokS c e (rows.length * sz)) σ) : RET (.own c e sz rows) σ (Opn e sz rows) :=
  ⟨_, _, AVle.rfl' _, hs, ⟨c, rfl, rfl⟩⟩

theorem FnSpec.wo {g : List Nat} {ts : List (Nat × Option (Bool × Nat))} {s : SCode} (hk : fnAt P k g = some (ts, s))
    (h : ∀ R, (∀ c σ rows', rows' = rows → SubN (tokS c e (rows'.length * sz)) σ → RET (.own c e sz rows') σ R) → W G P s (retQ ts R) (argEnv 0 args) [] ⟨⟩) : FnSpec G P k args [] (Opn e sz rows) :=
  FnSpec.at hk (h _ fun c σ rows' hr hs => by subst hr; exact RET.opn hs)

theorem FnSpec.lst (h : FnSpec G P k args [] (Opn e sz rows)) : Pure G P k args (.lst sz rows) :=
  ⟨h.1, fun ρ w vs hS hA => (h.2 ρ w vs hS hA).mono fun en w' ⟨v, r, σ', he, ⟨c, hr, hσ⟩, hsat, hev, hrep⟩ => by
    subst hr hσ
    have hs := SubN.nil (tokS c e (rows.length * sz))
    exact ⟨v, .lst sz rows, [], he, ⟨rfl, rfl⟩, hsat.subN hs, hev.trans (Ev.of_sub hs.1 _), AVle1.rep (x := .own c e sz rows) (y := .lst sz rows) (.inr ⟨rfl, rfl⟩) (Rep.ev (Ev.of_sub hs.1 w') _ _ hrep)⟩⟩
end

/-! ### rows that point nowhere -/

def AV.flat : AV → Bool
  | .bool _ => true
  | .int _ _ => true
  | .str _ => true
  | _ => false
theorem AV.flat_rep {σ σ' : Store} {w w' : World} : ∀ {x : AV} {u : Value}, x.flat = true → Rep σ w x u → Rep σ' w' x u
  | .bool _, _, _, h => by simp only [Rep] at h ⊢; exact h
  | .int _ _, _, _, h => by simp only [Rep] at h ⊢; exact h
  | .str _, _, _, h => by simp only [Rep] at h ⊢; exact h
theorem RepL.flat {σ σ' : Store} {w w' : World} : ∀ {xs : List AV} {us : List Value}, (∀ x ∈ xs, x.flat = true) → RepL σ w xs us → RepL σ' w' xs us
  | [], _, _, h => by simp only [RepL] at h ⊢; exact h
  | x :: xs, us, hf, h => by
    simp only [RepL] at h ⊢
    obtain ⟨u, us', rfl, h1, h2⟩ := h
    exact ⟨u, us', rfl, AV.flat_rep (hf x (by simp)) h1, RepL.flat (fun y hy => hf y (by simp [hy])) h2⟩
section
variable {G : Glob} {P : Program} {k : FuncId} {args : List AV} {e : TypeId} {sz : Nat} {rows : List (List AV)}
end
end Go.Av
end

section
namespace Go.Av
open Go Go.RowKit Go.Proofs
set_option linter.unusedSimpArgs false
set_option linter.unusedVariables false

theorem Ev.belowK {σ : Store} {w w' : World} (h : Below w.heap.size w w') : Ev σ w σ w' :=
  let e := Ev.below h
  ⟨e.os, e.tape, e.output, e.size, fun b hb hn => ⟨(e.block b hb (by simp [Store.keys])).1, hn⟩, e.shape, fun a v hv hm => ⟨(e.cell a v hv (by rintro ⟨x, hx, _⟩; simp at hx)).1, hm⟩⟩
/-- Cells of which each holds one known value. -/
def Det (σ : Store) : Prop := ∀ b x, (b, x) ∈ σ → ∃ (e : TypeId) (vs : List Value), x = .cells e (vs.map AV.sc)
theorem RepL.scs {τ : Store} {w : World} : ∀ {vs us : List Value}, RepL τ w (vs.map AV.sc) us → us = vs
  | [], us, h => by simpa [RepL] using h
  | v :: vs, us, h => by
    simp only [List.map_cons, RepL] at h
    obtain ⟨u, us', rfl, h1, h2⟩ := h
    simp only [Rep] at h1
    rw [h1, RepL.scs h2]
theorem Det.keep {G : Glob} {σ ρ : Store} {w w' : World} (hd : Det σ) (h1 : Sat G (σ ++ ρ) w) (h2 : Sat G (σ ++ ρ) w') (ev : Ev σ w σ w') : Below w.heap.size w w' := by
  refine ⟨ev.os, ev.tape, ev.output, ev.size, fun k hk => ?_⟩
  by_cases hm : k ∈ σ.keys
  · obtain ⟨⟨b, x⟩, hx, rfl⟩ := List.mem_map.1 hm
    obtain ⟨e, vs, rfl⟩ := hd b x hx
    obtain ⟨us, g1, _, g2⟩ := h1.obj b _ (List.mem_append.2 (.inl hx))
    obtain ⟨us', k1, _, k2⟩ := h2.obj b _ (List.mem_append.2 (.inl hx))
    have e1 := RepL.scs g2
    have e2 := RepL.scs k2
    have : us = us' := by apply Array.ext'; rw [e1, e2]
    show w'.heap[b]? = w.heap[b]?
    rw [g1, k1, this]
  · exact (ev.block k hk hm).1
theorem FnSpec.of_callsK {G : Glob} {P : Program} {k : FuncId} {fn : Func} {args : List AV} {r : AV} {σ : Store} (hf : P.funcs[k]? = some fn) (hn : (fn.name == "runtime.NumGoroutine") = false) (hb : fn.body.isNone = false)
    (h : ∀ (ρ : Store) (w : World) (vs : Array Value), Sat G (σ ++ ρ) w → RepL (σ ++ ρ) w args vs.toList → ∃ v, (∀ τ' w', Rep τ' w' r v) ∧ Calls P k vs w fun e w' => e = .returned v ∧ Below w.heap.size w w') : FnSpec G P k args σ fun x σ' => x = r ∧ σ' = σ :=
  ⟨⟨fn, hf, hn, hb⟩, fun ρ w vs hS hA => by
    obtain ⟨v, hr, hc⟩ := h ρ w vs hS hA
    refine hc.mono ?_
    rintro e w' ⟨rfl, hB⟩
    exact ⟨v, r, σ, rfl, ⟨rfl, rfl⟩, Sat.below hS hB, Ev.belowK hB, hr _ _⟩⟩

section
variable (G : Glob)
theorem pred_growsK {g b : Nat} {p : Nat → Bool} {σ ρ : Store} {w : World} (hd : Det σ) (hS : Sat G (σ ++ ρ) w)
    (hg : ∀ n : Nat, FnSpec G Tryz.prog g [.int .i32 (n : Int), .sc (.pointer (some ⟨b, 0, none⟩))] σ fun x σ' => x = .bool (p n) ∧ σ' = σ) : PredGrows Tryz.prog g #[.pointer (some ⟨b, 0, none⟩)] p w := fun W x hx hb => by
  have hSW := Sat.below hS hb
  have := (hg x).2 ρ W (#[encR x] ++ #[.pointer (some ⟨b, 0, none⟩)]) hSW (by simp [RepL, Rep])
  refine this.mono ?_
  rintro e w' ⟨v, r, σ', rfl, ⟨rfl, rfl⟩, hS2, ev, hr⟩
  simp only [Rep] at hr
  exact ⟨by rw [hr], hd.keep hSW hS2 ev⟩
theorem index_k (g b : Nat) (p : Nat → Bool) (s : List UInt8) {σ : Store} (hd : Det σ) (eg : ∀ args w, (callFunc g args).run Tryz.prog w = .ok (.enter g args) w) (hp : ∀ n, 128 ≤ n → p n = true)
    (hg : ∀ n : Nat, FnSpec G Tryz.prog g [.int .i32 (n : Int), .sc (.pointer (some ⟨b, 0, none⟩))] σ fun x σ' => x = .bool (p n) ∧ σ' = σ) :
    FnSpec G Tryz.prog 213 [.str s, .sc (.func (.func g) #[] #[.pointer (some ⟨b, 0, none⟩)])] σ fun x σ' => x = .int .i64 (idxF (fun c : UInt8 => p c.toNat) 0 s) ∧ σ' = σ := by
  refine FnSpec.of_callsK Tryz.func213 (by kernel_rfl) (by kernel_rfl) fun ρ w vs hS hA => ?_
  obtain ⟨u, v, rfl, h1, h2⟩ := vs_two hA
  simp only [Rep] at h1 h2
  subst h1 h2
  refine ⟨.int .i64 (idxF (fun c : UInt8 => p c.toNat) 0 s), fun _ _ => by simp only [Rep], ?_⟩
  have h := Any.strings_IndexFunc_grows Tryz.laysGw15 g #[.pointer (some ⟨b, 0, none⟩)] eg p ⟨⟨s⟩⟩ w (pred_growsK G hd hS hg)
  have e : Lib.idxFunc p true ⟨⟨s⟩⟩ = idxF (fun c : UInt8 => p c.toNat) 0 s := idxFunc_bytes p hp s s.length 0 (by omega) (by omega)
  rw [e] at h
  exact h

def fitN (n : Nat) : Bool := (decide ((97 : Int) ≤ n) && decide ((n : Int) ≤ 122)) || ((decide ((48 : Int) ≤ n) && decide ((n : Int) ≤ 57)) || decide ((n : Int) = 45))
theorem f212 (n : Nat) : Pure G Tryz.prog 212 [.int .i32 (n : Int)] (.bool (fitN n)) := by
  refine Pure.w c212 fun R hR => ?_
  unfold s212 r212
  (repeat' (first | (with_reducible (refine gd_case (fun h => ?_) (fun h => ?_)) <;> (try simp only [Da, Db, Dc, Dd, De, Df, Dg, Dh] at h)) | simp -dsimp -implicitDefEqProofs only [EV1, EV2, EV3, EV4, EV5, seval, ↓reduceIte, reduceCtorEq, eq_self, Option.map_some, decide_true, decide_false, EV6, EV7] | (exfalso; omega)))
  (all_goals (((refine RET.eq hR ?_; (refine congrArg AV.bool (Bool.eq_iff_iff.2 ?_); simp only [fitN, EVB] at *; omega)))))
/-- The cell in which the test lies. -/
def fitS (b : Nat) : Store := [(b, .cells 177 [.sc (.func (.func 212) #[] #[])])]
theorem fitS_det (b : Nat) : Det (fitS b) := fun b' x hx => by
  simp only [fitS, List.mem_singleton, Prod.mk.injEq] at hx
  exact ⟨_, [.func (.func 212) #[] #[]], hx.2⟩
end
end Go.Av
end
