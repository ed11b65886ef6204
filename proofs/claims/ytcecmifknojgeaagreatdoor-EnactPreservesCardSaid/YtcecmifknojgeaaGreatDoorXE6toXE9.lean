/-
  ENACT, 6: a unit moved: the program does what the document says.
-/
import Derived.Test.YtcecmifknojgeaaGreatDoorXE1toXE5
import Derived.Test.YtcecmifknojgeaaGreatDoorXL19toXOpI
section
namespace Go.Av
open Go Go.RowKit Go.Proofs
set_option linter.unusedSimpArgs false
set_option linter.unusedVariables false

structure Goal (u : U) (t : Idd) (wh : Int) (P : U) (dp k : Nat) : Prop where
  mem : P.id ∈ u.ids
  here : fnd P.id u = P
  deep : (U.way P.id u).length = dp + 1
  spot : Go.Av.spot u t wh = some (P.id, k)
  ref : (if besides wh then (parR t u).1 else fnd t u) = P ∧ (if besides wh then (parR t u).2.1 else (U.way t u).length - 1) = dp
  out : ∀ i, i ∈ u.ids → t ∉ (fnd i u).ids → P.id ∉ (fnd i u).ids
  pos : (wh = 0 ∧ k = 0) ∨ (wh = 1 ∧ k = P.kids.length) ∨ ((wh = 2 ∨ wh = 3) ∧ ∃ j a y b, P.kids = a ++ y :: b ∧ y.id = t ∧ j = a.length ∧ t ∉ U.idss a ∧ k = j + (if wh = 2 then 1 else 0))
theorem goal_of {u : U} (hn : u.ids.Nodup) {t : Idd} (ht : t ∈ u.ids) {wh : Int} (h0 : 0 ≤ wh) (h3 : wh ≤ 3) (hne : ¬ (besides wh = true ∧ t = u.id)) : ∃ P dp k, Goal u t wh P dp k := by
  have hh : (wh = 0 ∨ wh = 1) ∨ (wh = 2 ∨ wh = 3) := by omega
  rcases hh with hh | hh
  · have hb : besides wh = false := decide_eq_false (by omega)
    have hi := fnd_id u hn ht
    have hw := way_pos ht
    refine ⟨fnd t u, (U.way t u).length - 1, if wh = 0 then 0 else (fnd t u).kids.length, ?_, ?_, ?_, ?_, ?_, ?_, ?_⟩
    · rw [hi.1]; exact ht
    · rw [hi.1]
    · rw [hi.1]; omega
    · unfold spot
      rw [hi.1]
      rcases hh with rfl | rfl <;> simp
    · rw [hb]; simp
    · intro i hi2 h
      rw [hi.1]; exact h
    · rcases hh with rfl | rfl <;> simp
  · have hb : besides wh = true := decide_eq_true hh
    have hne2 : u.id ≠ t := fun e => hne ⟨hb, e.symm⟩
    obtain ⟨p, d, j, e1, e2, e3⟩ := par_some hn ht hne2
    obtain ⟨a, k, b, s, hk, hj, hl⟩ := e3.split
    refine ⟨p, d, if wh = 2 then j + 1 else j, e3.mem, e3.fnd, e3.deep, ?_, ?_, ?_, ?_⟩
    · unfold spot
      rw [e1]
      rcases hh with rfl | rfl <;> simp
    · rw [hb, e2]; simp
    · intro i hi h hm
      apply h
      have hpi := (way_through u hn e3.mem hi).2 hm
      rw [← way_through u hn ht hi]
      obtain ⟨y, hy, e⟩ := hpi
      exact ⟨y, by rw [e3.path]; exact List.mem_append.2 (.inl hy), e⟩
    · refine .inr (.inr ⟨hh, j, a, k, b, s.eq, hk, hj, s.left, ?_⟩)
      rcases hh with rfl | rfl <;> simp

end Go.Av
end

section
namespace Go.Av
open Go Go.RowKit Go.Proofs
set_option linter.unusedSimpArgs false
set_option linter.unusedVariables false

theorem markW_len (a b : Int) : ∀ (l : List (List UInt8)) (m : Int), (markW a b l m).length = l.length
  | [], _ => rfl
  | s :: l, m => by rw [markW, List.length_cons, markW_len a b l, List.length_cons]
theorem markW_app (a b : Int) : ∀ (l r : List (List UInt8)) (m : Int), markW a b (l ++ r) m = markW a b l m ++ markW a b r (m + l.length)
  | [], r, m => by simp [markW]
  | s :: l, r, m => by
    rw [List.cons_append, markW, markW_app a b l r, markW, List.cons_append]
    simp only [List.length_cons]
    rw [show m + 1 + (l.length : Int) = m + ((l.length + 1 : Nat) : Int) by omega]

/-! ### where a row occurs -/
def occL (row : List (List UInt8)) : Nat → Nat → List (List UInt8) → List Nat
  | _, _, [] => []
  | k + 1, i, _ :: l => occL row k (i + 1) l
  | 0, i, x :: l => if (x :: l).take row.length = row then i :: occL row (row.length - 1) (i + 1) l else occL row 0 (i + 1) l
theorem occL_skip (row : List (List UInt8)) : ∀ (k i : Nat) (l : List (List UInt8)), occL row k i l = occL row 0 (i + k) (l.drop k)
  | 0, i, l => by simp
  | k + 1, i, [] => by simp [occL]
  | k + 1, i, x :: l => by rw [occL, occL_skip row k (i + 1) l, List.drop_succ_cons, show i + 1 + k = i + (k + 1) by omega]
theorem occL_hit {row : List (List UInt8)} {i : Nat} {l : List (List UInt8)} (hr : row ≠ []) (h : l.take row.length = row) : occL row 0 i l = i :: occL row 0 (i + row.length) (l.drop row.length) := by
  cases l with
  | nil => rw [List.take_nil] at h; exact absurd h.symm hr
  | cons x l =>
    have hp : 1 ≤ row.length := by cases row <;> simp_all
    rw [occL, if_pos h, occL_skip]
    obtain ⟨n, hn⟩ : ∃ n, row.length = n + 1 := ⟨row.length - 1, by omega⟩
    rw [hn, List.drop_succ_cons, show i + 1 + (n + 1 - 1) = i + (n + 1) by omega]
    rfl
theorem occL_miss {row : List (List UInt8)} {i : Nat} {l : List (List UInt8)} (h : l.take row.length ≠ row) : occL row 0 i l = occL row 0 (i + 1) (l.drop 1) := by
  cases l with
  | nil => simp [occL]
  | cons x l => rw [occL, if_neg h]; rfl
theorem occL_short {row : List (List UInt8)} : ∀ {l : List (List UInt8)} {i : Nat}, l.length < row.length → occL row 0 i l = []
  | [], _, _ => by rw [occL]
  | x :: l, i, h => by
    rw [occL, if_neg, occL_short (by simp at h; omega)]
    intro e
    have := congrArg List.length e
    simp at this h
    omega
def Gaps (n len : Nat) : Nat → List Nat → Prop
  | _, [] => True
  | s, p :: ps => s ≤ p ∧ p + len ≤ n ∧ Gaps n len (p + len) ps
theorem Gaps.from {n len : Nat} : ∀ {ps : List Nat} {s s' : Nat}, s' ≤ s → Gaps n len s ps → Gaps n len s' ps
  | [], _, _, _, _ => trivial
  | p :: ps, s, s', h, ⟨h1, h2, h3⟩ => ⟨by omega, h2, h3⟩
theorem occL_gaps {row : List (List UInt8)} (hr : row ≠ []) : ∀ (k i : Nat) (l : List (List UInt8)), k ≤ l.length → Gaps (i + l.length) row.length (i + k) (occL row k i l)
  | _, _, [], _ => by rw [occL]; trivial
  | k + 1, i, x :: l, h => by
    rw [occL]
    have := occL_gaps hr k (i + 1) l (by simpa using h)
    rw [show i + (x :: l).length = i + 1 + l.length by simp; omega, show i + (k + 1) = i + 1 + k by omega]
    exact this
  | 0, i, x :: l, _ => by
    rw [occL]
    have hp : 1 ≤ row.length := by cases row <;> simp_all
    split
    · rename_i e
      have hle : row.length ≤ (x :: l).length := by
        have := congrArg List.length e
        rw [List.length_take] at this
        omega
      have := occL_gaps hr (row.length - 1) (i + 1) l (by simp at hle; omega)
      refine ⟨by omega, by omega, ?_⟩
      rw [show i + (x :: l).length = i + 1 + l.length by simp; omega, show i + row.length = i + 1 + (row.length - 1) by omega]
      exact this
    · have := occL_gaps hr 0 (i + 1) l (by omega)
      rw [show i + (x :: l).length = i + 1 + l.length by simp; omega]
      exact this.from (by omega)
def occs (w : List Wd) (row : List (List UInt8)) : List Nat := occL row 0 0 (w.map Wd.text)
theorem occs_gaps {w : List Wd} {row : List (List UInt8)} (hr : row ≠ []) : Gaps w.length row.length 0 (occs w row) := by
  have := occL_gaps hr 0 0 (w.map Wd.text) (by omega)
  simpa [occs] using this
def chosen (ps : List Nat) (nth : Int) : List Nat := if nth = 0 then ps else match ps[(nth - 1).toNat]? with
  | some p => [p]
  | none => []
theorem gaps_one {n len : Nat} : ∀ {ps : List Nat} {s j : Nat} {p : Nat}, Gaps n len s ps → ps[j]? = some p → s ≤ p ∧ p + len ≤ n
  | [], _, _, _, _, h => by simp at h
  | q :: ps, s, 0, p, ⟨h1, h2, _⟩, h => by simp at h; subst h; exact ⟨h1, h2⟩
  | q :: ps, s, j + 1, p, ⟨h1, h2, h3⟩, h => by
    have := gaps_one h3 (by simpa using h)
    omega
theorem chosen_gaps {n len : Nat} {ps : List Nat} {nth : Int} (h : Gaps n len 0 ps) : Gaps n len 0 (chosen ps nth) := by
  unfold chosen
  split
  · exact h
  · split
    · rename_i p e
      have := gaps_one h e
      exact ⟨by omega, this.2, trivial⟩
    · trivial

/-! ### words put at places -/
def editD (w : List Wd) (fresh : List (List UInt8)) (a b : Int) (gone : Nat) : Nat → List Nat → Int → List Wd
  | s, [], _ => w.drop s
  | s, p :: ps, m => (w.take p).drop s ++ (markW a b fresh m ++ editD w fresh a b gone (p + gone) ps (m + fresh.length))
def putL (w : List Wd) (fresh : List (List UInt8)) (a b : Int) (gone : Nat) : List Nat → Int → List Wd
  | [], _ => w
  | p :: ps, m => (putL w fresh a b gone ps (m + fresh.length)).take p ++ (markW a b fresh m ++ (putL w fresh a b gone ps (m + fresh.length)).drop (p + gone))
theorem putL_edit (w : List Wd) (fresh : List (List UInt8)) (a b : Int) (gone : Nat) : ∀ (ps : List Nat) (s : Nat) (m : Int), Gaps w.length gone s ps → putL w fresh a b gone ps m = w.take s ++ editD w fresh a b gone s ps m
  | [], s, m, _ => by rw [putL, editD, List.take_append_drop]
  | p :: ps, s, m, ⟨h1, h2, h3⟩ => by
    rw [putL, putL_edit w fresh a b gone ps (p + gone) _ h3, editD]
    have hl : (w.take (p + gone)).length = p + gone := by rw [List.length_take]; omega
    rw [List.take_append_of_le_length (by omega), List.drop_left' hl, List.take_take, Nat.min_eq_left (by omega)]
    have : w.take p = w.take s ++ (w.take p).drop s := by
      conv => lhs; rw [← List.take_append_drop s (w.take p), List.take_take, Nat.min_eq_left h1]
    conv => lhs; rw [this]
    rw [List.append_assoc]
def editE (w : List Wd) (x : Itm) (a b : Int) : List Wd × Int :=
  if x.kind = 3 ∧ x.old = [] then (if 256 < (markW a b x.new 0 ++ w).length then ([], 6) else (markW a b x.new 0 ++ w, 0))
  else if chosen (occs w x.old) x.nth = [] then ([], 4)
  else if x.kind = 3 then (if 256 < (editD w x.new a b 0 0 ((chosen (occs w x.old) x.nth).map (· + x.old.length)) 0).length then ([], 6) else (editD w x.new a b 0 0 ((chosen (occs w x.old) x.nth).map (· + x.old.length)) 0, 0))
  else (if 256 < (editD w x.new a b x.old.length 0 (chosen (occs w x.old) x.nth) 0).length then ([], 6) else (editD w x.new a b x.old.length 0 (chosen (occs w x.old) x.nth) 0, 0))
theorem gaps_shift {n len : Nat} : ∀ {ps : List Nat} {s : Nat}, Gaps n len s ps → Gaps n 0 s (ps.map (· + len))
  | [], _, _ => trivial
  | p :: ps, s, ⟨h1, h2, h3⟩ => ⟨(by show s ≤ p + len; omega), (by show p + len + 0 ≤ n; omega), (gaps_shift h3).from (by show p + len + 0 ≤ p + len; omega)⟩
end Go.Av
end

section
namespace Go.Av
open Go Go.RowKit Go.Proofs
set_option linter.unusedSimpArgs false
set_option linter.unusedVariables false

theorem Itm.ext' {a b : Itm} (h1 : a.kind = b.kind) (h2 : a.at_ = b.at_) (h3 : a.to_ = b.to_) (h4 : a.wh = b.wh) (h5 : a.nth = b.nth) (h6 : a.unit = b.unit) (h7 : a.old = b.old) (h8 : a.new = b.new) (h9 : a.label = b.label) (h10 : a.for_ = b.for_)
    (h11 : a.start = b.start) (h12 : a.act = b.act) (h13 : a.item = b.item) (h14 : a.day = b.day) (h15 : a.event = b.event) (h16 : a.by_ = b.by_) : a = b := by
  cases a; cases b; simp_all

theorem sta_eq {a b : Sta} (h : (decide (a.kind = b.kind) && (decide (a.day = b.day) && (decide (a.event = b.event) && true))) = true) : a = b := by
  cases a; cases b; simp_all
theorem sta_ne {a b : Sta} (h : (decide (a.kind = b.kind) && (decide (a.day = b.day) && (decide (a.event = b.event) && true))) = false) : a ≠ b := by
  rintro rfl; simp at h
section
variable (G : Glob)
end
end Go.Av
end

section
namespace Go.Av
open Go Go.RowKit Go.Proofs
set_option linter.unusedSimpArgs false
set_option linter.unusedVariables false

def Itm.just (x : Itm) : Itm :=
  if x.kind = 0 then { iz with wh := x.wh, unit := x.unit } else if x.kind = 2 ∨ x.kind = 3 then { iz with old := x.old, new := x.new, nth := x.nth } else if x.kind = 4 then { iz with new := x.new } else
  if x.kind = 5 then { iz with label := x.label } else if x.kind = 6 then { iz with to_ := x.to_, wh := x.wh } else if x.kind = 7 ∨ x.kind = 8 ∨ x.kind = 9 then { iz with act := x.act, item := x.item, day := x.day } else
  if x.kind = 10 then { iz with event := x.event, day := x.day } else if x.kind = 11 then { iz with act := x.act, item := x.item, by_ := x.by_ } else iz
def Itm.told (x : Itm) : Itm := if x.kind ≤ 6 then { x.just with kind := x.kind, at_ := x.at_, for_ := x.for_, start := x.start } else { x.just with kind := x.kind }

section
variable (G : Glob)
end
end Go.Av
end

section
namespace Go.Av
open Go Go.RowKit Go.Proofs
set_option linter.unusedSimpArgs false
set_option linter.unusedVariables false

structure Itm.Short1 (x : Itm) : Prop where
  fit : x.fit
  unit : x.unit.Short
  at_ : x.at_.length < 1000000
  to_ : x.to_.length < 1000000
  atl : ∀ s ∈ x.at_, s.label.length < 1000000000000000000
  tol : ∀ s ∈ x.to_, s.label.length < 1000000000000000000
  old : x.old.length < 1000000
  new : x.new.length < 1000000
  label : x.label.length < 1000000000000000000
  for_ : x.for_.length < 1000000000000000000
  start : x.start.event.length < 1000000000000000000
  event : x.event.length < 1000000000000000000

mutual
def Itm.Shorts : Itm → Prop
  | ⟨k, a, t, wh, n, u, o, w, l, f, s, ac, it, d, e, b⟩ => Itm.Short1 ⟨k, a, t, wh, n, u, o, w, l, f, s, ac, it, d, e, b⟩ ∧ Itm.Shortss b
def Itm.Shortss : List Itm → Prop
  | [] => True
  | x :: l => Itm.Shorts x ∧ Itm.Shortss l
end
theorem Itm.Shortss_iff : ∀ {us : List Itm}, Itm.Shortss us ↔ ∀ k ∈ us, k.Shorts
  | [] => by simp [Itm.Shortss]
  | u :: us => by simp [Itm.Shortss, Itm.Shortss_iff (us := us)]
theorem Itm.Shorts_eq (x : Itm) : x.Shorts ↔ x.Short1 ∧ ∀ k ∈ x.by_, k.Shorts := by
  cases x
  rw [Itm.Shorts, Itm.Shortss_iff]

def okRow (l : List (List UInt8)) (n : Int) : Bool := seqOk l && decide (n ≤ (l.length : Int))
def Itm.own (x : Itm) (y : Bool) : Bool :=
  if x.kind = 0 then inR x.wh 0 3 && (bareOk x.unit && (decide (x.unit.kind ≠ 0) && decide ((textOf x.unit).2 = 0)))
  else if x.kind = 2 then okRow x.old 1 && (okRow x.new 0 && inR x.nth 0 256)
  else if x.kind = 3 then okRow x.old 0 && (okRow x.new 1 && (inR x.nth 0 256 && (decide (0 < (x.old.length : Int)) || decide (x.nth = 0))))
  else if x.kind = 4 then okRow x.new 0
  else if x.kind = 5 then labelOk x.label
  else if x.kind = 6 then inR x.wh 0 3 && addrOk x.to_
  else if x.kind = 7 ∨ x.kind = 8 ∨ x.kind = 9 then inR x.act 1 1048576 && (inR x.item (-1) 31 && inR x.day 0 1048576)
  else if x.kind = 10 then nameOk x.event && inR x.day 0 1048576
  else if x.kind = 11 then inR x.act 1 1048576 && (inR x.item 0 31 && y)
  else true
def Itm.pre (x : Itm) : Bool := (inR x.kind 0 11 && decide (x = x.told)) && (decide (6 < x.kind) || (addrOk x.at_ && ((decide (x.for_ = []) || nameOk x.for_) && startOk x.start)))
mutual
def Itm.may : Itm → Bool
  | ⟨k, a, t, wh, n, u, o, w, l, f, s, ac, it, d, e, b⟩ => Itm.pre ⟨k, a, t, wh, n, u, o, w, l, f, s, ac, it, d, e, b⟩ && Itm.own ⟨k, a, t, wh, n, u, o, w, l, f, s, ac, it, d, e, b⟩ (Itm.mayOne b)
def Itm.mayOne : List Itm → Bool
  | [] => false
  | x :: l => (l.isEmpty && inR x.kind 0 6) && Itm.may x
end
theorem Itm.may_eq (x : Itm) : x.may = (x.pre && x.own (Itm.mayOne x.by_)) := by cases x; rw [Itm.may]
theorem Itm.mayOne_cons (x : Itm) (l : List Itm) : Itm.mayOne (x :: l) = ((l.isEmpty && inR x.kind 0 6) && x.may) := by rw [Itm.mayOne]

section
variable (G : Glob)
end
end Go.Av
end

section
namespace Go.Av
open Go Go.RowKit Go.Proofs
set_option linter.unusedSimpArgs false
set_option linter.unusedVariables false

/-! ### addresses -/
def called (u : U) (s : Stp) : Bool := decide (u.kind = s.kind) && decide (u.label = s.label)
def bookStp (s : Stp) : Bool := decide (s.kind = 0) && decide (s.label = [])
def stepDown (l : List U) (s : Stp) : List U := l.flatMap fun x => x.kids.filter fun k => called k s
def found (u : U) (p : List Stp) : List U :=
  if addrOk p = false then [] else match p with
  | [] => [u]
  | s :: r => r.foldl stepDown (if bookStp s then [u] else u.flat.filter fun x => called x s)
def one (u : U) (p : List Stp) : Idd × Int := match found u p with
  | [] => (⟨0, 0, 0⟩, 7)
  | [x] => (x.id, 0)
  | _ => (⟨0, 0, 0⟩, 8)
theorem kid_flat {u x k : U} (hx : x ∈ u.flat) (hk : k ∈ x.kids) : k ∈ u.flat := by
  revert hx
  refine U.ind (p := fun u => x ∈ u.flat → k ∈ u.flat) (fun u ih hx => ?_) u
  rw [U.flat_eq] at hx ⊢
  rcases List.mem_cons.1 hx with rfl | hx
  · exact List.mem_cons_of_mem _ (flats_of hk (by rw [U.flat_eq]; simp))
  · have : ∀ {us : List U}, x ∈ U.flats us → ∃ k ∈ us, x ∈ k.flat := by
      intro us
      induction us with
      | nil => intro h; rw [U.flats] at h; cases h
      | cons a us ih =>
        intro h
        rw [U.flats, List.mem_append] at h
        rcases h with h | h
        · exact ⟨a, by simp, h⟩
        · obtain ⟨k, hk, hx⟩ := ih h; exact ⟨k, by simp [hk], hx⟩
    obtain ⟨y, hy, hxy⟩ := this hx
    exact List.mem_cons_of_mem _ (flats_of hy (ih y hy hxy))
theorem steps_flat {u : U} : ∀ {r : List Stp} {l : List U}, (∀ x ∈ l, x ∈ u.flat) → ∀ x ∈ r.foldl stepDown l, x ∈ u.flat
  | [], l, h, x, hx => h x hx
  | s :: r, l, h, x, hx => steps_flat (l := stepDown l s) (fun y hy => by
      obtain ⟨z, hz, hy⟩ := List.mem_flatMap.1 hy
      exact kid_flat (h z hz) (List.mem_filter.1 hy).1) x hx
theorem found_flat {u : U} {p : List Stp} : ∀ x ∈ found u p, x ∈ u.flat := by
  intro x hx
  have h0 : u ∈ u.flat := by rw [U.flat_eq]; simp
  unfold found at hx
  split at hx
  · cases hx
  · split at hx
    · simp only [List.mem_singleton] at hx; subst hx; exact h0
    · refine steps_flat ?_ x hx
      intro y hy
      split at hy
      · simp only [List.mem_singleton] at hy; subst hy; exact h0
      · exact (List.mem_filter.1 hy).1
theorem one_mem {u : U} {p : List Stp} (h : (one u p).2 = 0) : (one u p).1 ∈ u.ids := by
  have hf := found_flat (u := u) (p := p)
  unfold one at h ⊢
  split at h
  · cases h
  · rename_i x e
    rw [e] at hf
    exact List.mem_map.2 ⟨x, hf x (by simp), rfl⟩
  · cases h

/-! ### an item applied -/
def chg (k : Int) : Bool := decide (0 ≤ k) && decide (k ≤ 6)
def doP (u : U) (d : Dd) : U × Int :=
  if chg d.it.kind = false ∨ d.it.may = false then (u, 1)
  else if (one u d.it.at_).2 ≠ 0 then (u, (one u d.it.at_).2)
  else if d.it.kind = 0 then insP u (one u d.it.at_).1 d
  else if (one u d.it.at_).1 = u.id then (if d.it.kind = 6 ∧ (one u d.it.to_).2 ≠ 0 then (u, (one u d.it.to_).2) else (u, 9))
  else if d.it.kind = 1 then (without (one u d.it.at_).1 u, 0)
  else if d.it.kind = 2 ∨ d.it.kind = 3 then
    (if (editE (fnd (one u d.it.at_).1 u).words d.it d.act d.item).2 ≠ 0 then (u, (editE (fnd (one u d.it.at_).1 u).words d.it d.act d.item).2)
     else (U.wth (one u d.it.at_).1 (fun y => { y with words := (editE (fnd (one u d.it.at_).1 u).words d.it d.act d.item).1 }) u, 0))
  else if d.it.kind = 4 then (U.wth (one u d.it.at_).1 (fun y => { y with head := markW d.act d.item d.it.new 0 }) u, 0)
  else if d.it.kind = 5 then
    (if takes (parR (one u d.it.at_).1 u).1 (parR (one u d.it.at_).1 u).1.kids { fnd (one u d.it.at_).1 u with label := d.it.label } = 10 then (u, 10)
     else (U.wth (one u d.it.at_).1 (fun y => { y with label := d.it.label }) u, 0))
  else if (one u d.it.to_).2 ≠ 0 then (u, (one u d.it.to_).2)
  else movP u (one u d.it.at_).1 (one u d.it.to_).1 d
end Go.Av
end

section
namespace Go.Av
open Go Go.RowKit Go.Proofs
set_option linter.unusedSimpArgs false
set_option linter.unusedVariables false

theorem flats_app (a b : List U) : U.flats (a ++ b) = U.flats a ++ U.flats b := by
  induction a with
  | nil => rw [flats_nil]; rfl
  | cons x a ih => rw [List.cons_append, flats_cons, flats_cons, ih, List.append_assoc]
theorem deeps_app (a b : List U) : U.deeps (a ++ b) = max (U.deeps a) (U.deeps b) := by
  induction a with
  | nil => rw [U.deeps]; simp
  | cons x a ih => rw [List.cons_append, U.deeps, U.deeps, ih]; omega
theorem flats_split {us : List U} {x : U} (h : x ∈ U.flats us) : ∃ k ∈ us, x ∈ k.flat := flats_in h

theorem ids_wth {i : Idd} {f : U → U} (u : U) (hn : u.ids.Nodup) (hi : i ∈ u.ids) : ∃ l r, u.ids = l ++ ((fnd i u).ids ++ r) ∧ (U.wth i f u).ids = l ++ ((f (fnd i u)).ids ++ r) := by
  refine U.wayInd (i := i) (p := fun u => ∃ l r, u.ids = l ++ ((fnd i u).ids ++ r) ∧ (U.wth i f u).ids = l ++ ((f (fnd i u)).ids ++ r)) ?_ ?_ u hn hi
  · intro u _ h
    have e : fnd i u = u := fnd_last (by rw [way_here h]; rfl)
    refine ⟨[], [], ?_, ?_⟩
    · rw [e]; simp
    · rw [wth_here h, e]; simp
  · intro u a k b hn h s ⟨l, r, e1, e2⟩
    rw [s.fnd hn s.mem]
    refine ⟨u.id :: (U.idss a ++ l), r ++ U.idss b, ?_, ?_⟩
    · rw [U.ids_eq, s.eq, U.idss_app, U.idss_cons, e1]; simp [List.append_assoc]
    · rw [s.wth h, U.ids_eq]
      simp only
      rw [U.idss_app, U.idss_cons, e2]; simp [List.append_assoc]
theorem deep_wth {i : Idd} {f : U → U} (u : U) (hn : u.ids.Nodup) (hi : i ∈ u.ids) : (U.wth i f u).deep ≤ max u.deep ((U.way i u).length - 1 + (f (fnd i u)).deep) ∧ (U.way i u).length - 1 + (fnd i u).deep ≤ u.deep := by
  refine U.wayInd (i := i) (p := fun u => (U.wth i f u).deep ≤ max u.deep ((U.way i u).length - 1 + (f (fnd i u)).deep) ∧ (U.way i u).length - 1 + (fnd i u).deep ≤ u.deep) ?_ ?_ u hn hi
  · intro u _ h
    have e : fnd i u = u := fnd_last (by rw [way_here h]; rfl)
    rw [wth_here h, e, way_here h]
    simp only [List.length_cons, List.length_nil]
    omega
  · intro u a k b hn h s ⟨h1, h2⟩
    have := way_pos s.mem
    rw [s.fnd hn s.mem, s.wth h, s.way h, U.deep_eq, U.deep_eq u, s.eq]
    simp only [List.length_cons]
    rw [deeps_app, deeps_app, U.deeps, U.deeps]
    omega
def U.key (u : U) : Int × List UInt8 := (u.kind, u.label)
theorem nodeOk_keys {y z : U} (hk : z.kind = y.kind) (hl : z.label = y.label) (hh : rowOk z.head = rowOk y.head ∧ z.head.length = y.head.length) (hw : rowOk z.words = rowOk y.words ∧ z.words.length = y.words.length) (hs : z.kids.map U.key = y.kids.map U.key) : nodeOk z = nodeOk y := by
  have e1 : z.kids.length = y.kids.length := by have := congrArg List.length hs; simpa using this
  have e2 : (z.kids.all fun k => nests z.kind k.kind) = y.kids.all fun k => nests y.kind k.kind := by
    have : ∀ l : List U, ∀ p : Int, (l.all fun k => nests p k.kind) = (l.map U.key).all fun q => nests p q.1 := fun l p => by rw [List.all_map]; rfl
    rw [this, this, hs, hk]
  have e3 : Apart z.kids ↔ Apart y.kids := by unfold Apart; exact Iff.of_eq (congrArg List.Nodup hs)
  unfold nodeOk own1
  rw [e1, e2, decide_eq_decide.2 e3, hk, hl, hh.1, hh.2, hw.1, hw.2]
theorem nodes_wth {i : Idd} {f : U → U} (hkey : ∀ y, (f y).key = y.key) (u : U) (hn : u.ids.Nodup) (hi : i ∈ u.ids) (hok : ∀ y ∈ u.flat, nodeOk y = true) (hnew : ∀ z ∈ (f (fnd i u)).flat, nodeOk z = true) : ∀ z ∈ (U.wth i f u).flat, nodeOk z = true := by
  revert hok hnew
  refine U.wayInd (i := i) (p := fun u => (∀ y ∈ u.flat, nodeOk y = true) → (∀ z ∈ (f (fnd i u)).flat, nodeOk z = true) → ∀ z ∈ (U.wth i f u).flat, nodeOk z = true) ?_ ?_ u hn hi
  · intro u _ h hok hnew
    have e : fnd i u = u := fnd_last (by rw [way_here h]; rfl)
    rw [wth_here h]
    rw [e] at hnew
    exact hnew
  · intro u a k b hn h s ih hok hnew z hz
    rw [s.fnd hn s.mem] at hnew
    have hkf : ∀ y ∈ k.flat, nodeOk y = true := fun y hy => hok y (U.flat_kid (by rw [s.eq]; simp) hy)
    rw [s.wth h, U.flat_eq] at hz
    rcases List.mem_cons.1 hz with rfl | hz
    · rw [← hok u u.flat_self]
      refine nodeOk_keys rfl rfl ⟨rfl, rfl⟩ ⟨rfl, rfl⟩ ?_
      simp only
      rw [s.eq, List.map_append, List.map_append, List.map_cons, List.map_cons, wth_key U.key hkey (fun _ _ => rfl)]
    · simp only at hz
      rw [flats_app, flats_cons, List.mem_append, List.mem_append] at hz
      rcases hz with hz | hz | hz
      · obtain ⟨y, hy, hz⟩ := flats_split hz
        exact hok z (U.flat_kid (by rw [s.eq]; simp [hy]) hz)
      · exact ih hkf hnew z hz
      · obtain ⟨y, hy, hz⟩ := flats_split hz
        exact hok z (U.flat_kid (by rw [s.eq]; simp [hy]) hz)
theorem nodes_label {i : Idd} {s0 : List UInt8} (u : U) (hn : u.ids.Nodup) (hi : i ∈ u.ids) (hne : u.id ≠ i) (hok : ∀ y ∈ u.flat, nodeOk y = true) (hl : labelOk s0 = true)
    (ht : ∀ p d j, wayPar i u = some (p, d, j) → taken p.kids (fnd i u).kind s0 = false) (hk0 : (fnd i u).kind ≠ 0) : ∀ z ∈ (U.wth i (fun y => { y with label := s0 }) u).flat, nodeOk z = true := by
  revert hne hok ht hk0
  refine U.wayInd (i := i) (p := fun u => u.id ≠ i → (∀ y ∈ u.flat, nodeOk y = true) → (∀ p d j, wayPar i u = some (p, d, j) → taken p.kids (fnd i u).kind s0 = false) → (fnd i u).kind ≠ 0 → ∀ z ∈ (U.wth i (fun y => { y with label := s0 }) u).flat, nodeOk z = true) ?_ ?_ u hn hi
  · intro u _ h hne
    exact absurd h hne
  · intro u a k b hn h s ih _ hok ht hk0 z hz
    rw [s.fnd hn s.mem] at ht hk0
    have hkf : ∀ y ∈ k.flat, nodeOk y = true := fun y hy => hok y (U.flat_kid (by rw [s.eq]; simp) hy)
    have hrest : ∀ y, y ∈ U.flats a ∨ y ∈ U.flats b → nodeOk y = true := by
      intro y hy
      rcases hy with hy | hy <;>
      · obtain ⟨q, hq, hy⟩ := flats_split hy
        exact hok y (U.flat_kid (by rw [s.eq]; simp [hq]) hy)
    rw [s.wth h, U.flat_eq] at hz
    simp only at hz
    rw [flats_app, flats_cons, List.mem_cons, List.mem_append, List.mem_append] at hz
    by_cases hk : k.id = i
    · have hfk : fnd i k = k := fnd_last (by rw [way_here hk]; rfl)
      rw [hfk] at ht hk0
      have htk := ht u 0 a.length (wayPar_kid h s hk)
      rw [wth_here hk] at hz
      rcases hz with rfl | hz | hz | hz
      · have hu := hok u u.flat_self
        unfold nodeOk at hu ⊢
        simp only [Bool.and_eq_true, decide_eq_true_eq] at hu ⊢
        refine ⟨hu.1, ⟨?_, ?_⟩, ?_⟩
        · rw [List.all_append, List.all_cons]
          have := hu.2.1.1
          rw [s.eq, List.all_append, List.all_cons] at this
          exact this
        · have := hu.2.1.2
          unfold Apart at this ⊢
          rw [s.eq, List.map_append, List.map_cons] at this
          rw [List.map_append, List.map_cons]
          unfold taken at htk
          rw [List.any_eq_false] at htk
          have hno : ∀ y ∈ u.kids, (y.kind, y.label) ≠ (k.kind, s0) := fun y hy e => by
            have := htk y hy
            injection e with e1 e2
            simp [e1, e2] at this
          obtain ⟨n1, n2, n3⟩ := List.nodup_append.1 this
          rw [List.nodup_cons] at n2
          refine List.nodup_append.2 ⟨n1, List.nodup_cons.2 ⟨?_, n2.2⟩, ?_⟩
          · intro hm
            obtain ⟨y, hy, e⟩ := List.mem_map.1 hm
            exact hno y (by rw [s.eq]; simp [hy]) e
          · intro x hx y hy e
            obtain ⟨x', hx', ex⟩ := List.mem_map.1 hx
            rcases List.mem_cons.1 hy with hy | hy
            · exact hno x' (by rw [s.eq]; simp [hx']) (ex.trans (e.trans hy))
            · exact n3 x hx y (List.mem_cons_of_mem _ hy) e
        · have := hu.2.2
          rw [s.eq] at this
          simp at this ⊢
          exact this
      · exact hrest z (.inl hz)
      · rw [U.flat_eq] at hz
        rcases List.mem_cons.1 hz with rfl | hz
        · have hkk := hkf k k.flat_self
          unfold nodeOk own1 at hkk ⊢
          simp only at hkk ⊢
          rw [if_neg hk0] at hkk ⊢
          simp only [Bool.and_eq_true] at hkk ⊢
          exact ⟨⟨hkk.1.1, hl, hkk.1.2.2⟩, hkk.2⟩
        · exact hkf z (by rw [U.flat_eq]; exact List.mem_cons_of_mem _ hz)
      · exact hrest z (.inr hz)
    · rcases hz with rfl | hz | hz | hz
      · rw [← hok u u.flat_self]
        refine nodeOk_keys rfl rfl ⟨rfl, rfl⟩ ⟨rfl, rfl⟩ ?_
        simp only
        rw [s.eq, List.map_append, List.map_append, List.map_cons, List.map_cons]
        have : (U.wth i (fun y => { y with label := s0 }) k).key = k.key := by
          rw [U.wth_eq, if_neg hk]; rfl
        rw [this]
      · exact hrest z (.inl hz)
      · refine ih hk hkf (fun p d j e => ?_) hk0 z hz
        exact ht p (d + 1) j (by rw [wayPar_deep h s hk, e]; rfl)
      · exact hrest z (.inr hz)
end Go.Av
end
