/-
  LINT, 20: names, commencement rules.
-/
import Derived.Test.YtedcgagodcfgmaaGreatDoorXL19
import Derived.Shelf.Strings.SlTrimAscii
import Derived.Test.YtedcgagodcfgmaaGreatDoorXOpenGtoXGlob
section
namespace Go.Av
open Go Go.RowKit Go.Proofs
set_option linter.unusedSimpArgs false
set_option linter.unusedVariables false

def nameSet : List UInt8 := [97, 98, 99, 100, 101, 102, 103, 104, 105, 106, 107, 108, 109, 110, 111, 112, 113, 114, 115, 116, 117, 118, 119, 120, 121, 122, 48, 49, 50, 51, 52, 53, 54, 55, 56, 57, 45]
theorem nameSet_ch (c : UInt8) : nameSet.contains c = nameCh c := by
  have key : ∀ n : Fin 256, nameSet.contains (UInt8.ofNat n.val) = nameCh (UInt8.ofNat n.val) := by decide +kernel
  have := key ⟨c.toNat, c.toNat_lt⟩
  simpa using this
theorem dropWhile_nil {α : Type} (p : α → Bool) : ∀ l : List α, l.dropWhile p = [] ↔ l.all p = true
  | [] => by simp
  | x :: l => by
    rw [List.dropWhile_cons, List.all_cons]
    split
    · rename_i h; rw [dropWhile_nil p l, h, Bool.true_and]
    · rename_i h; simp [h]
theorem trimS_nil (l cs : List UInt8) : Lib.trimS l cs = [] ↔ (l.all fun c => cs.contains c) = true := by
  unfold Lib.trimS Lib.trimLeftS Lib.trimRightS
  rw [dropWhile_nil, List.all_reverse]
  constructor
  · intro h
    have h2 : l.reverse.all (fun c => cs.contains c) = true := by
      rw [← List.takeWhile_append_dropWhile (p := fun c => cs.contains c) (l := l.reverse), List.all_append, h, Bool.and_true]
      exact List.all_takeWhile
    rwa [List.all_reverse] at h2
  · intro h
    have h2 : l.reverse.dropWhile (fun c => cs.contains c) = [] := (dropWhile_nil _ _).2 (by rw [List.all_reverse]; exact h)
    rw [h2]; rfl

section
variable (G : Glob)

theorem f142 (s : List UInt8) (hs : s.length < 1000000) : Pure G Tryz.prog 142 [.str s, .str nameSet] (.str (Lib.trimS s nameSet)) := by
  refine Pure.of_calls Tryz.func142 (by kernel_rfl) (by kernel_rfl) fun τ w vs hS hA => ?_
  obtain ⟨u, v, rfl, h1, h2⟩ := vs_two hA
  simp only [Rep] at h1 h2
  subst h1 h2
  refine ⟨.string ⟨⟨Lib.trimS s nameSet⟩⟩, fun _ _ => by simp only [Rep], ?_⟩
  have hsz : (⟨⟨s⟩⟩ : ByteArray).size = s.length := rfl
  refine (Any.strings_Trim_laid Tryz.lays160 (by kernel_rfl) ⟨⟨s⟩⟩ ⟨⟨nameSet⟩⟩ w (by rw [hsz]; omega) (by decide) (ascii_of_all (by decide))).mono ?_
  rintro e w' ⟨rfl, hB⟩
  exact ⟨rfl, hB⟩

theorem f72 (s : List UInt8) (hs : s.length < 1000000) : Pure G Tryz.prog 72 [.str s] (.bool (nameOk s)) := by
  have hT := f142 G s hs
  have hb : decide (Lib.trimS s nameSet = []) = s.all nameCh := by
    rw [Bool.eq_iff_iff, decide_eq_true_eq, trimS_nil]
    simp only [nameSet_ch]
  unfold nameSet at hT hb
  refine Pure.w c72 fun R hR => ?_
  unfold s72 r72
  unfold nameOk at hR
  generalize s.all nameCh = q at *
  (repeat' (first | (with_reducible (first | refine split_case (fun h => ?_) (fun h => ?_) | refine gd_case (fun h => ?_) (fun h => ?_)) <;> (try simp only [Da, Db, Dc, Dd, De, Df, Dg, Dh] at h)) | (with_reducible refine And.intro (by omega) ?_) | (with_reducible refine CALL_pure (hT) ?_) | simp -dsimp -implicitDefEqProofs only [EV1, EV2, EV3, EV4, EV5, seval, ↓reduceIte, reduceCtorEq, eq_self, Option.map_some, decide_true, decide_false, EV6, EV7, hb]))
  (all_goals (first | (refine RET.eq hR ?_; (refine congrArg AV.bool (Bool.eq_iff_iff.2 ?_); simp only [isLow, EVB] at *; omega)) | (refine RET.eq hR ?_; ((simp_all [isLow]; done)))))

theorem f73 (s : Sta) (hs : s.event.length < 1000000) : Pure G Tryz.prog 73 [.agg [.int .i64 s.kind, .int .i64 s.day, .str s.event]] (.bool (startOk s)) := by
  refine Pure.w c73 fun R hR => ?_
  unfold s73 r73
  (repeat' (first | (with_reducible (first | refine split_case (fun h => ?_) (fun h => ?_) | refine gd_case (fun h => ?_) (fun h => ?_)) <;> (try simp only [Da, Db, Dc, Dd, De, Df, Dg, Dh] at h)) | (with_reducible refine CALL_pure (f72 G _ hs) ?_) | (with_reducible refine CALL_pure (f137 G _ _ _) ?_) | simp -dsimp -implicitDefEqProofs only [EV1, EV2, EV3, EV4, EV5, seval, ↓reduceIte, reduceCtorEq, eq_self, Option.map_some, decide_true, decide_false, EV6, EV7] | (exfalso; omega)))
  (all_goals (((refine RET.eq hR ?_; ((simp_all [startOk]; done))))))
end
end Go.Av
end

section
namespace Go.Av
open Go Go.RowKit Go.Proofs
set_option linter.unusedSimpArgs false
set_option linter.unusedVariables false

mutual
/-- An item whose lists are not too long to be walked. -/
def Itm.fit : Itm → Prop
  | ⟨_, a, t, _, _, u, o, w, _, _, _, _, _, _, _, b⟩ => a.length < 1000000000000000000 ∧ t.length < 1000000000000000000 ∧ u.fit ∧ o.length < 1000000000000000000 ∧ w.length < 1000000000000000000 ∧ b.length < 1000000000000000000 ∧ Itm.fits b
def Itm.fits : List Itm → Prop
  | [] => True
  | u :: us => Itm.fit u ∧ Itm.fits us
end
theorem Itm.fits_iff : ∀ {us : List Itm}, Itm.fits us ↔ ∀ k ∈ us, k.fit
  | [] => by simp [Itm.fits]
  | u :: us => by simp [Itm.fits, Itm.fits_iff (us := us)]
theorem Itm.fit_eq (u : Itm) : u.fit ↔ u.at_.length < 1000000000000000000 ∧ u.to_.length < 1000000000000000000 ∧ u.unit.fit ∧ u.old.length < 1000000000000000000 ∧ u.new.length < 1000000000000000000 ∧ u.by_.length < 1000000000000000000 ∧ ∀ k ∈ u.by_, k.fit := by
  cases u
  rw [Itm.fit, Itm.fits_iff]
def texts100 (l : List (List UInt8)) : Bool := l.all fun s => decide ((s.length : Int) ≤ 100)
def steps100 (l : List Stp) : Bool := l.all fun s => decide ((s.label.length : Int) ≤ 100)
theorem texts100_cons (x : List UInt8) (r : List (List UInt8)) : texts100 (x :: r) = (decide ((x.length : Int) ≤ 100) && texts100 r) := rfl
theorem steps100_cons (x : Stp) (r : List Stp) : steps100 (x :: r) = (decide ((x.label.length : Int) ≤ 100) && steps100 r) := rfl
def Itm.few0 (x : Itm) : Bool :=
  decide ((x.at_.length : Int) ≤ 12) && (decide ((x.to_.length : Int) ≤ 12) && (decide ((x.old.length : Int) ≤ 300) && (decide ((x.new.length : Int) ≤ 300) && (decide ((x.label.length : Int) ≤ 100) &&
  (decide ((x.for_.length : Int) ≤ 100) && (decide ((x.start.event.length : Int) ≤ 100) && (decide ((x.event.length : Int) ≤ 100) && (decide ((x.by_.length : Int) ≤ 2) && x.unit.few 30))))))))
def deepBy (x : Itm) : Bool := match x.by_ with
  | [] => false
  | y :: _ => decide (0 < (y.by_.length : Int))
mutual
def Itm.few : Itm → Bool
  | ⟨k, a, t, wh, n, u, o, w, l, f, s, ac, it, d, e, b⟩ => Itm.few0 ⟨k, a, t, wh, n, u, o, w, l, f, s, ac, it, d, e, b⟩ && (texts100 o && (texts100 w && (steps100 a && (steps100 t && Itm.fews b))))
def Itm.fews : List Itm → Bool
  | [] => true
  | x :: l => (!deepBy x && Itm.few x) && Itm.fews l
end
theorem Itm.fews_cons (x : Itm) (l : List Itm) : Itm.fews (x :: l) = ((!deepBy x && x.few) && Itm.fews l) := by rw [Itm.fews]
theorem Itm.few_eq (x : Itm) : x.few = (x.few0 && (texts100 x.old && (texts100 x.new && (steps100 x.at_ && (steps100 x.to_ && Itm.fews x.by_))))) := by cases x; rw [Itm.few]

section
variable (G : Glob)
set_option maxHeartbeats 4000000 in
theorem f9 : ∀ (x : Itm), x.fit → Pure G Tryz.prog 9 [.agg x.cs] (.bool x.few) := by
  refine Itm.ind fun it ih hfit => ?_
  obtain ⟨h1, h2, h3, h4, h5, h6, h7⟩ := (Itm.fit_eq it).1 hfit
  refine Pure.w c9 fun R hR => ?_
  unfold s9 r9
  rw [Itm.few_eq] at hR
  (repeat' (first | (with_reducible (first | refine split_case (fun h => ?_) (fun h => ?_) | refine gd_case (fun h => ?_) (fun h => ?_)) <;> (try simp only [Da, Db, Dc, Dd, De, Df, Dg, Dh] at h)) | (with_reducible refine CALL_pure (f18 G it.unit 30 h3 (by omega) (by omega)) ?_) | simp -dsimp -implicitDefEqProofs only [EV1, EV2, EV3, EV4, EV5, seval, ↓reduceIte, reduceCtorEq, eq_self, Option.map_some, decide_true, decide_false, EV6, EV7, U.cs_fold, hx.yes, hx.le0, hx.lt', hx.get, hx.row, hw] | simp -dsimp -implicitDefEqProofs only [EV1, EV2, EV3, EV4, EV5, seval, ↓reduceIte, reduceCtorEq, eq_self, Option.map_some, decide_true, decide_false, EV6, EV7, U.cs_fold, hn] | simp -dsimp -implicitDefEqProofs only [EV1, EV2, EV3, EV4, EV5, seval, ↓reduceIte, reduceCtorEq, eq_self, Option.map_some, decide_true, decide_false, EV6, EV7, U.cs_fold] | (refine LK_next hx () ?_ (Weak.rfl' _ _)) | (refine W_list (it.old) (fun i r (c : Unit) => texts100 it.old = texts100 r) (fun i c => [(1, .ref it.cs), (3, .int .i64 i)]) (fun _ _ => []) () (by rfl) (Weak.rfl' _ _) (by omega) (fun i x r c hok hx hw => ?_) (fun c hok hn => ?_) ) | (refine W_list (it.new) (fun i r (c : Unit) => texts100 it.new = texts100 r) (fun i c => [(1, .ref it.cs), (4, .int .i64 i)]) (fun _ _ => []) () (by rfl) (Weak.rfl' _ _) (by omega) (fun i x r c hok hx hw => ?_) (fun c hok hn => ?_) ) | (refine W_list (it.at_) (fun i r (c : Unit) => steps100 it.at_ = steps100 r) (fun i c => [(1, .ref it.cs), (5, .int .i64 i)]) (fun _ _ => []) () (by rfl) (Weak.rfl' _ _) (by omega) (fun i x r c hok hx hw => ?_) (fun c hok hn => ?_) ) | (refine W_list (it.to_) (fun i r (c : Unit) => steps100 it.to_ = steps100 r) (fun i c => [(1, .ref it.cs), (6, .int .i64 i)]) (fun _ _ => []) () (by rfl) (Weak.rfl' _ _) (by omega) (fun i x r c hok hx hw => ?_) (fun c hok hn => ?_) )))
  all_goals first
    | (rw [hok, texts100_cons, decide_eq_true h, Bool.true_and]; done)
    | (rw [hok, steps100_cons, decide_eq_true h, Bool.true_and]; done)
    | (refine RET.eq hR (congrArg AV.bool ?_); rw [hok, texts100_cons, decide_eq_false (by omega)]; simp; done)
    | (refine RET.eq hR (congrArg AV.bool ?_); rw [hok, steps100_cons, decide_eq_false (by omega)]; simp; done)
    | (refine RET.eq hR (congrArg AV.bool ?_); simp only [Itm.few0, *, decide_true, decide_false, Bool.true_and, Bool.false_and, Bool.and_false]; done)
    | (refine RET.eq hR (congrArg AV.bool ?_); unfold Itm.few0; rw [decide_eq_false (Int.not_le.2 h)]; simp only [Bool.false_and, Bool.and_false]; done)
    | skip
  have e0 : it.few0 = true := by simp only [Itm.few0, *, decide_true, Bool.true_and]
  have e1 : texts100 it.old = texts100 [] := by assumption
  have e2 : texts100 it.new = texts100 [] := by assumption
  have e3 : steps100 it.at_ = steps100 [] := by assumption
  rw [e0, e1, e2, e3, hok] at hR
  clear hok
  refine W_list (it.by_) (fun i r (c : Unit) => Itm.fews it.by_ = Itm.fews r) (fun i c => [(1, .ref it.cs), (7, .int .i64 i)]) (fun _ _ => []) () rfl (Weak.rfl' _ _) (by omega) (fun i x r c hok hx hw => ?_) (fun c hok hn => ?_)
  · rw [Itm.fews_cons] at hok
    rcases hxb : x.by_ with _ | ⟨y, ys⟩
    · have hd : deepBy x = false := by unfold deepBy; rw [hxb]
      (repeat' (first | (with_reducible (refine split_case (fun h => ?_) (fun h => ?_)) <;> (try simp only [Da, Db, Dc, Dd, De, Df, Dg, Dh] at h)) | (with_reducible refine CALL_pure (ih x hx.mem (h7 x hx.mem)) ?_) | simp -dsimp -implicitDefEqProofs only [EV1, EV2, EV3, EV4, EV5, seval, ↓reduceIte, reduceCtorEq, eq_self, Option.map_some, decide_true, decide_false, EV6, EV7, hx.yes, hx.le0, hx.lt', hx.get, hx.row, hw, hxb, List.map_nil, List.length_nil] | (refine LK_next hx () ?_ (Weak.rfl' _ _))))
      · exact RET.eq hR (by rw [hok, hd, h]; rfl)
      · rw [hok, hd, h]; rfl
    · have hd : deepBy x = decide (0 < (y.by_.length : Int)) := by unfold deepBy; rw [hxb]
      (repeat' (first | (with_reducible (first | refine split_case (fun h => ?_) (fun h => ?_) | refine gd_case (fun h => ?_) (fun h => ?_)) <;> (try simp only [Da, Db, Dc, Dd, De, Df, Dg, Dh] at h)) | (with_reducible refine And.intro (by omega) ?_) | (with_reducible refine CALL_pure (ih x hx.mem (h7 x hx.mem)) ?_) | simp -dsimp -implicitDefEqProofs only [EV1, EV2, EV3, EV4, EV5, seval, ↓reduceIte, reduceCtorEq, eq_self, Option.map_some, decide_true, decide_false, EV6, EV7, hx.yes, hx.le0, hx.lt', hx.get, hx.row, hw, hxb, List.map_cons, List.getD_cons_zero, List.length_cons] | (refine LK_next hx () ?_ (Weak.rfl' _ _)) | (exfalso; omega)))
      all_goals first
        | (refine RET.eq hR (congrArg AV.bool ?_); rw [hok, hd, decide_eq_true h]; rfl)
        | (refine RET.eq hR (congrArg AV.bool ?_); rw [hok, h, Bool.and_false]; rfl)
        | (rename_i hnn; rw [hok, hd, h, decide_eq_false (by omega)]; rfl)
        | trace_state
  · (repeat' (simp -dsimp -implicitDefEqProofs only [EV1, EV2, EV3, EV4, EV5, seval, ↓reduceIte, reduceCtorEq, eq_self, Option.map_some, decide_true, decide_false, EV6, EV7, hn]))
    exact RET.eq hR (by rw [hok, Itm.fews]; rfl)
end
end Go.Av
end

section
namespace Go.Av
open Go Go.RowKit Go.Proofs
set_option linter.unusedSimpArgs false
set_option linter.unusedVariables false

section
variable {P : Program} {B n : Nat} {t e : TypeId} {a : List AV}
theorem shp_int {k : IntKind} (hu : P.underlying t = some (.int k)) (h : Shp P B n t a) : ∃ i, a = [.int k i] := by
  cases n with
  | zero => exact h.elim
  | succ n => simpa only [Shp, hu] using h
theorem shp_str (hu : P.underlying t = some .string) (h : Shp P B n t a) : ∃ s : List UInt8, s.length ≤ B ∧ a = [.str s] := by
  cases n with
  | zero => exact h.elim
  | succ n => simpa only [Shp, hu] using h
theorem shp_struct {fs : Array Field} (hu : P.underlying t = some (.struct fs)) (h : Shp P B n t a) : ∃ m, n = m + 1 ∧ ShpF (Shp P B m) fs.toList a := by
  cases n with
  | zero => exact h.elim
  | succ n => exact ⟨n, rfl, by simpa only [Shp, hu] using h⟩
theorem choose_list {α : Type} {f : α → List AV} {q : α → Prop} : ∀ rows : List (List AV), (∀ r ∈ rows, ∃ x, r = f x ∧ q x) → ∃ l : List α, rows = l.map f ∧ ∀ x ∈ l, q x
  | [], _ => ⟨[], rfl, fun x hx => by cases hx⟩
  | r :: rows, h => by
    obtain ⟨x, hx, hq⟩ := h r (by simp)
    obtain ⟨l, hl, hql⟩ := choose_list rows fun r hr => h r (by simp [hr])
    refine ⟨x :: l, by rw [hx, hl]; rfl, fun y hy => ?_⟩
    rcases List.mem_cons.1 hy with rfl | hy
    · exact hq
    · exact hql y hy
theorem shp_slice {α : Type} {f : α → List AV} {q : α → Prop} {sz : Nat} (hu : P.underlying t = some (.slice e)) (hsz : P.cellsOf e = sz) (hel : ∀ m, m < n → ∀ r, Shp P B m e r → ∃ x, r = f x ∧ q x) (h : Shp P B n t a) :
    ∃ l : List α, a = [.lst sz (l.map f)] ∧ l.length ≤ B ∧ ∀ x ∈ l, q x := by
  cases n with
  | zero => exact h.elim
  | succ n =>
    simp only [Shp, hu] at h
    obtain ⟨rows, rfl, hl, hr⟩ := h
    obtain ⟨l, rfl, hq⟩ := choose_list rows fun r hr' => hel n (Nat.lt_succ_self n) r (hr r hr')
    exact ⟨l, by rw [hsz], by simpa using hl, hq⟩
end

theorem toL {α : Type} (l : List α) : l.toArray.toList = l := rfl
abbrev Big (n : Nat) : Prop := n < 1000000000000000000
theorem big_of {n : Nat} (h : n ≤ reachBytes) : Big n := by unfold reachBytes at h; show n < _; omega

theorem open_id {n : Nat} {a : List AV} (h : Shp Tryz.prog reachBytes n 24 a) : ∃ i : Idd, a = i.cs := by
  obtain ⟨m, rfl, g⟩ := shp_struct Tryz.underlying24 h
  clear h
  simp only [toL, ShpF] at g
  obtain ⟨a1, b1, rfl, h1, a2, b2, rfl, h2, a3, b3, rfl, h3, rfl⟩ := g
  obtain ⟨i1, rfl⟩ := shp_int Tryz.underlying3 h1
  obtain ⟨i2, rfl⟩ := shp_int Tryz.underlying3 h2
  obtain ⟨i3, rfl⟩ := shp_int Tryz.underlying3 h3
  exact ⟨⟨i1, i2, i3⟩, rfl⟩
theorem open_mark {n : Nat} {a : List AV} (h : Shp Tryz.prog reachBytes n 128 a) : ∃ i1 i2 i3 : Int, a = [.int .i64 i1, .int .i64 i2, .int .i64 i3] := by
  obtain ⟨m, rfl, g⟩ := shp_struct Tryz.underlying128 h
  clear h
  simp only [toL, ShpF] at g
  obtain ⟨a1, b1, rfl, h1, a2, b2, rfl, h2, a3, b3, rfl, h3, rfl⟩ := g
  obtain ⟨i1, rfl⟩ := shp_int Tryz.underlying3 h1
  obtain ⟨i2, rfl⟩ := shp_int Tryz.underlying3 h2
  obtain ⟨i3, rfl⟩ := shp_int Tryz.underlying3 h3
  exact ⟨i1, i2, i3, rfl⟩
theorem open_word {n : Nat} {a : List AV} (h : Shp Tryz.prog reachBytes n 130 a) : ∃ w : Wd, a = w.cs ∧ Big w.text.length := by
  obtain ⟨m, rfl, g⟩ := shp_struct Tryz.underlying130 h
  clear h
  simp only [toL, ShpF] at g
  obtain ⟨a1, b1, rfl, h1, a2, b2, rfl, h2, rfl⟩ := g
  obtain ⟨s, hs, rfl⟩ := shp_str Tryz.underlying9 h1
  obtain ⟨i1, i2, i3, rfl⟩ := open_mark h2
  exact ⟨⟨s, i1, i2, i3⟩, rfl, big_of hs⟩
theorem open_step {n : Nat} {a : List AV} (h : Shp Tryz.prog reachBytes n 64 a) : ∃ w : Stp, a = w.cs ∧ Big w.label.length := by
  obtain ⟨m, rfl, g⟩ := shp_struct Tryz.underlying64 h
  clear h
  simp only [toL, ShpF] at g
  obtain ⟨a1, b1, rfl, h1, a2, b2, rfl, h2, rfl⟩ := g
  obtain ⟨i1, rfl⟩ := shp_int Tryz.underlying3 h1
  obtain ⟨s, hs, rfl⟩ := shp_str Tryz.underlying9 h2
  exact ⟨⟨i1, s⟩, rfl, big_of hs⟩
theorem open_start {n : Nat} {a : List AV} (h : Shp Tryz.prog reachBytes n 31 a) : ∃ s : Sta, a = [.int .i64 s.kind, .int .i64 s.day, .str s.event] ∧ Big s.event.length := by
  obtain ⟨m, rfl, g⟩ := shp_struct Tryz.underlying31 h
  clear h
  simp only [toL, ShpF] at g
  obtain ⟨a1, b1, rfl, h1, a2, b2, rfl, h2, a3, b3, rfl, h3, rfl⟩ := g
  obtain ⟨i1, rfl⟩ := shp_int Tryz.underlying3 h1
  obtain ⟨i2, rfl⟩ := shp_int Tryz.underlying3 h2
  obtain ⟨s, hs, rfl⟩ := shp_str Tryz.underlying9 h3
  exact ⟨⟨i1, i2, s⟩, rfl, big_of hs⟩
theorem open_words {n : Nat} {a : List AV} (h : Shp Tryz.prog reachBytes n 25 a) : ∃ l : List Wd, a = [.lst 4 (l.map Wd.cs)] ∧ Big l.length ∧ ∀ w ∈ l, Big w.text.length := by
  obtain ⟨l, h1, h2, h3⟩ := shp_slice (f := Wd.cs) (q := fun w => Big w.text.length) (sz := 4) Tryz.underlying25 (by kernel_rfl) (fun m _ r hr => open_word hr) h
  exact ⟨l, h1, big_of h2, h3⟩
theorem open_steps {n : Nat} {a : List AV} (h : Shp Tryz.prog reachBytes n 22 a) : ∃ l : List Stp, a = [.lst 2 (l.map Stp.cs)] ∧ Big l.length ∧ ∀ w ∈ l, Big w.label.length := by
  obtain ⟨l, h1, h2, h3⟩ := shp_slice (f := Stp.cs) (q := fun w => Big w.label.length) (sz := 2) Tryz.underlying22 (by kernel_rfl) (fun m _ r hr => open_step hr) h
  exact ⟨l, h1, big_of h2, h3⟩
theorem open_strs {n : Nat} {a : List AV} (h : Shp Tryz.prog reachBytes n 29 a) : ∃ l : List (List UInt8), a = [.lst 1 (l.map srow)] ∧ Big l.length ∧ ∀ w ∈ l, Big w.length := by
  obtain ⟨l, h1, h2, h3⟩ := shp_slice (f := srow) (q := fun w => Big w.length) (sz := 1) Tryz.underlying29 (by kernel_rfl) (fun m _ r hr => by
    obtain ⟨s, hs, rfl⟩ := shp_str Tryz.underlying9 hr
    exact ⟨s, rfl, big_of hs⟩) h
  exact ⟨l, h1, big_of h2, h3⟩
theorem open_unit : ∀ (n : Nat) (a : List AV), Shp Tryz.prog reachBytes n 28 a → ∃ u : U, a = u.cs ∧ u.fit := by
  intro n
  induction n using Nat.strongRecOn with
  | ind n ih =>
    intro a h
    obtain ⟨m, rfl, g⟩ := shp_struct Tryz.underlying28 h
    clear h
    simp only [toL, ShpF] at g
    obtain ⟨a1, b1, rfl, h1, a2, b2, rfl, h2, a3, b3, rfl, h3, a4, b4, rfl, h4, a5, b5, rfl, h5, a6, b6, rfl, h6, rfl⟩ := g
    obtain ⟨i, rfl⟩ := open_id h1
    obtain ⟨k, rfl⟩ := shp_int Tryz.underlying3 h2
    obtain ⟨s, hs, rfl⟩ := shp_str Tryz.underlying9 h3
    obtain ⟨hd, rfl, q1, q2⟩ := open_words h4
    obtain ⟨wd, rfl, q3, q4⟩ := open_words h5
    obtain ⟨ks, rfl, q5, q6⟩ := shp_slice (f := U.cs) (q := U.fit) (sz := 8) Tryz.underlying26 (by kernel_rfl) (fun m' hm r hr => ih m' (by omega) r hr) h6
    refine ⟨⟨i, k, s, hd, wd, ks⟩, ?_, (U.fit_eq _).2 ⟨big_of hs, ⟨q1, q2⟩, ⟨q3, q4⟩, big_of q5, q6⟩⟩
    rw [U.cs_eq]
    rfl
theorem open_item : ∀ (n : Nat) (a : List AV), Shp Tryz.prog reachBytes n 34 a → ∃ x : Itm, a = x.cs ∧ x.fit := by
  intro n
  induction n using Nat.strongRecOn with
  | ind n ih =>
    intro a h
    obtain ⟨m, rfl, g⟩ := shp_struct Tryz.underlying34 h
    clear h
    simp only [toL, ShpF] at g
    obtain ⟨a1, b1, rfl, h1, a2, b2, rfl, h2, a3, b3, rfl, h3, a4, b4, rfl, h4, a5, b5, rfl, h5, a6, b6, rfl, h6, a7, b7, rfl, h7, a8, b8, rfl, h8, a9, b9, rfl, h9, a10, b10, rfl, h10, a11, b11, rfl, h11, a12, b12, rfl, h12, a13, b13, rfl, h13, a14, b14, rfl, h14, a15, b15, rfl, h15, a16, b16, rfl, h16, rfl⟩ := g
    obtain ⟨k, rfl⟩ := shp_int Tryz.underlying3 h1
    obtain ⟨l2, rfl, q2, _⟩ := open_steps h2
    obtain ⟨l3, rfl, q3, _⟩ := open_steps h3
    obtain ⟨i4, rfl⟩ := shp_int Tryz.underlying3 h4
    obtain ⟨i5, rfl⟩ := shp_int Tryz.underlying3 h5
    obtain ⟨u6, rfl, q6⟩ := open_unit _ _ h6
    obtain ⟨l7, rfl, q7, _⟩ := open_strs h7
    obtain ⟨l8, rfl, q8, _⟩ := open_strs h8
    obtain ⟨s9, _, rfl⟩ := shp_str Tryz.underlying9 h9
    obtain ⟨s10, _, rfl⟩ := shp_str Tryz.underlying9 h10
    obtain ⟨s11, rfl, _⟩ := open_start h11
    obtain ⟨i12, rfl⟩ := shp_int Tryz.underlying3 h12
    obtain ⟨i13, rfl⟩ := shp_int Tryz.underlying3 h13
    obtain ⟨i14, rfl⟩ := shp_int Tryz.underlying3 h14
    obtain ⟨s15, _, rfl⟩ := shp_str Tryz.underlying9 h15
    obtain ⟨l16, rfl, q16, p16⟩ := shp_slice (f := Itm.cs) (q := Itm.fit) (sz := 25) Tryz.underlying32 (by kernel_rfl) (fun m' hm r hr => ih m' (by omega) r hr) h16
    refine ⟨⟨k, l2, l3, i4, i5, u6, l7, l8, s9, s10, s11, i12, i13, i14, s15, l16⟩, ?_, (Itm.fit_eq _).2 ⟨q2, q3, q6, q7, q8, big_of q16, p16⟩⟩
    rw [Itm.cs_eq, U.cs_eq]
    rfl
end Go.Av
end
