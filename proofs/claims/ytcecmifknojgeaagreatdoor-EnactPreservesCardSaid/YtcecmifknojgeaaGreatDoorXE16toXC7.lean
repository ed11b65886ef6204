/-
  ENACT, 16: items applied in order; how large a book gets.
-/
import Derived.Test.YtcecmifknojgeaaGreatDoorXE14toXE15
import Derived.Test.YtcecmifknojgeaaGreatDoorXL19toXOpI
import Derived.Test.YtcecmifknojgeaaGreatDoorXM2toXM9
import Derived.Test.YtcecmifknojgeaaGreatDoorXDattoXCS
import Derived.Test.YtcecmifknojgeaaGreatDoorXAv25toXAv26
import Derived.Test.YtcecmifknojgeaaGreatDoorProg
section
namespace Go.Av
open Go Go.RowKit Go.Proofs
set_option linter.unusedSimpArgs false
set_option linter.unusedVariables false

structure Ms where
  act : Int
  item : Int
  why : Int
  deriving DecidableEq, Inhabited
def Ms.cs (m : Ms) : List AV := [.int .i64 m.act, .int .i64 m.item, .int .i64 m.why]
def missOf (d : Dd) (e : Int) : List Ms := if e = 0 then [] else [⟨d.act, d.item, e⟩]
def stepP (u : U) (d : Dd) : U × List Ms := if chg d.it.kind = false then (u, []) else ((doP u d).1, missOf d (doP u d).2)
def allP : U → List Dd → U × List Ms
  | u, [] => (u, [])
  | u, d :: l => ((allP (stepP u d).1 l).1, (stepP u d).2 ++ (allP (stepP u d).1 l).2)
theorem allP_cons (u : U) (d : Dd) (l : List Dd) : allP u (d :: l) = ((allP (stepP u d).1 l).1, (stepP u d).2 ++ (allP (stepP u d).1 l).2) := rfl
theorem step_good {u : U} (h : Good u) (d : Dd) : Good (stepP u d).1 ∧ Root u (stepP u d).1 := by
  unfold stepP
  split
  · exact ⟨h, Root.refl u⟩
  · exact do_good h d
/-! ### the document's words for the same -/
/-! ### sizes -/
def wt5 (k : K5) : Nat := 1 + k.2.2.2.2.length / 50 + k.2.2.2.1.length / 50 + k.2.2.1.length / 50
def wtL (L : List K5) : Nat := (L.map wt5).sum
theorem wtL_nil : wtL [] = 0 := rfl
theorem wtL_cons (k : K5) (L : List K5) : wtL (k :: L) = wt5 k + wtL L := by simp [wtL]
theorem wtL_app (A B : List K5) : wtL (A ++ B) = wtL A + wtL B := by simp [wtL]
theorem all5_node {v : U} {k : K5} (hk : k ∈ v.all5) : ∃ y ∈ v.flat, y.k5 = k := List.mem_map.1 hk
/-! ### from nothing -/
def emptyU : U := ⟨zId, 0, [], [], [], []⟩
theorem empty_good : Good emptyU := by
  have hf : emptyU.flat = [emptyU] := by rw [U.flat_eq]; show emptyU :: U.flats [] = _; rw [flats_nil]
  refine ⟨?_, ?_, ?_, ?_, ⟨fun _ => rfl, fun _ => rfl⟩, fun h => absurd rfl h⟩
  · unfold U.ids; rw [hf]; simp
  · rw [hf]
    intro y hy
    simp only [List.mem_singleton] at hy
    subst hy
    decide
  · rw [U.deep_eq]; show U.deeps [] ≤ 8; rw [U.deeps]; omega
  · rw [hf]; simp
end Go.Av
end

section
namespace Go.Av
open Go Go.RowKit Go.Proofs
set_option linter.unusedSimpArgs false
set_option linter.unusedVariables false

mutual
def U.few7 : U → Int → Int → Int
  | ⟨_, _, l, h, w, ks⟩, left, d => if 12 < d then -1 else U.fews7 ks (((left - 1 - ((w.length / 50 : Nat) : Int)) - ((h.length / 50 : Nat) : Int)) - ((l.length / 50 : Nat) : Int)) (d + 1)
def U.fews7 : List U → Int → Int → Int
  | [], left, _ => left
  | u :: us, left, d => if 0 ≤ left then U.fews7 us (U.few7 u left d) d else left
end
theorem U.few7_eq (u : U) (left d : Int) : u.few7 left d = if 12 < d then -1 else U.fews7 u.kids (((left - 1 - ((u.words.length / 50 : Nat) : Int)) - ((u.head.length / 50 : Nat) : Int)) - ((u.label.length / 50 : Nat) : Int)) (d + 1) := by cases u; rw [U.few7]
theorem wt5_k (u : U) : wt5 u.k5 = 1 + u.words.length / 50 + u.head.length / 50 + u.label.length / 50 := rfl
theorem wtL_all (u : U) : wtL u.all5 = wt5 u.k5 + wtL (U.alls5 u.kids) := by rw [U.all5_eq, wtL_cons]
theorem few7_ok : ∀ (u : U) (left d : Int), 0 ≤ u.few7 left d → d ≤ 12 ∧ u.few7 left d = left - (wtL u.all5 : Nat) := by
  refine U.ind fun u ih left d h => ?_
  rw [U.few7_eq] at h ⊢
  split at h
  · omega
  · rename_i hd
    rw [if_neg hd]
    have key : ∀ (us : List U), (∀ k ∈ us, k ∈ u.kids) → ∀ l : Int, 0 ≤ U.fews7 us l (d + 1) → U.fews7 us l (d + 1) = l - (wtL (U.alls5 us) : Nat) := by
      intro us
      induction us with
      | nil => intro _ l _; rw [U.fews7, U.alls5_nil, wtL_nil]; omega
      | cons k us ihu =>
        intro hk l hl
        rw [U.fews7] at hl ⊢
        split at hl
        · rename_i h0
          rw [if_pos h0]
          have h1 := ihu (fun q hq => hk q (by simp [hq])) _ hl
          have h2 := (ih k (hk k (by simp)) l (d + 1) (by omega)).2
          rw [U.alls5_cons, wtL_app]
          omega
        · omega
    have h1 := key u.kids (fun _ h => h) _ h
    rw [wtL_all, wt5_k]
    omega
theorem wt5_le {k : K5} : ∀ {L : List K5}, k ∈ L → wt5 k ≤ wtL L
  | [], h => by cases h
  | a :: L, h => by
    rw [wtL_cons]
    rcases List.mem_cons.1 h with rfl | h
    · omega
    · have := wt5_le h; omega
theorem len_wtL : ∀ L : List K5, L.length ≤ wtL L
  | [] => Nat.le_refl _
  | a :: L => by
    have := len_wtL L
    rw [wtL_cons, List.length_cons]
    unfold wt5
    omega
theorem fit_node : ∀ u : U, u.fit → ∀ x ∈ u.flat, x.fit := by
  refine U.ind fun u ih h x hx => ?_
  rw [U.flat_eq] at hx
  rcases List.mem_cons.1 hx with rfl | hx
  · exact h
  · obtain ⟨k, hk, hx⟩ := flats_in hx
    exact ih k hk (((U.fit_eq u).1 h).2.2.2.2 k hk) x hx
theorem few7_short {u : U} (hf : u.fit) {n : Int} (hn : n ≤ 1000) (h : 0 ≤ u.few7 n 0) : u.Short := by
  have h1 := (few7_ok u n 0 h).2
  have hw : wtL u.all5 ≤ 1000 := by omega
  have hl := len_wtL u.all5
  have hl2 : u.all5.length = u.flat.length := by unfold U.all5; rw [List.length_map]
  refine ⟨⟨hf, by omega⟩, fun x hx => ?_⟩
  obtain ⟨f1, ⟨f2, f3⟩, ⟨f4, f5⟩, _⟩ := (U.fit_eq x).1 (fit_node u hf x hx)
  have h5 : wt5 x.k5 ≤ wtL u.all5 := wt5_le (List.mem_map.2 ⟨x, hx, rfl⟩)
  rw [wt5_k] at h5
  exact ⟨f1, by omega, by omega, f3, f5⟩

def idsB (u : U) : Bool := decide u.ids.Nodup && (!decide (zId ∈ u.ids) || decide (u.kind = 0))
def bookB (u : U) (n : Int) : Bool := decide (0 ≤ u.few7 n 0) && (treeOk2 u && idsB u)
theorem book_good {u : U} {n : Int} (h : bookB u n = true) : Good u := by
  unfold bookB idsB treeOk2 at h
  simp only [Bool.and_eq_true, decide_eq_true_eq] at h
  obtain ⟨h0, ⟨h1, h2, h3, h4⟩, h5, h6⟩ := h
  have h6' : zId ∈ u.ids → u.kind = 0 := by
    intro hz
    simpa [hz] using h6
  have hid : u.id ∈ u.ids := by rw [U.ids_eq]; simp
  refine ⟨h5, List.all_eq_true.1 h1, by unfold U.dep at h2; omega, by unfold U.cnt at h3; omega, ?_, fun hk hz => hk (h6' hz)⟩
  unfold idsOk at h4
  rw [Bool.or_eq_true] at h4
  rcases h4 with h4 | h4
  · have e : u.id = zId := by simpa using (List.all_eq_true.1 h4) _ hid
    exact ⟨fun _ => e, fun _ => h6' (e ▸ hid)⟩
  · rw [Bool.and_eq_true, decide_eq_true_eq, decide_eq_decide] at h4
    exact h4.1.symm
def Itm.little0 (x : Itm) : Bool :=
  decide ((x.at_.length : Int) ≤ 12) && (decide ((x.to_.length : Int) ≤ 12) && (decide ((x.old.length : Int) ≤ 20) && (decide ((x.new.length : Int) ≤ 20) && (decide ((x.by_.length : Int) ≤ 3) && (decide ((x.for_.length : Int) ≤ 100) &&
  (decide ((x.label.length : Int) ≤ 100) && (decide ((x.event.length : Int) ≤ 100) && decide (0 ≤ x.unit.few7 20 0))))))))
mutual
def Itm.little : Itm → Bool
  | ⟨k, a, t, wh, n, u, o, w, l, f, s, ac, it, d, e, b⟩ => Itm.little0 ⟨k, a, t, wh, n, u, o, w, l, f, s, ac, it, d, e, b⟩ && Itm.littles b
def Itm.littles : List Itm → Bool
  | [] => true
  | x :: l => Itm.little x && Itm.littles l
end
theorem Itm.little_eq (x : Itm) : x.little = (x.little0 && Itm.littles x.by_) := by cases x; rw [Itm.little]
theorem Itm.littles_cons (x : Itm) (l : List Itm) : Itm.littles (x :: l) = (x.little && Itm.littles l) := by rw [Itm.littles]
theorem Itm.littles_nil : Itm.littles [] = true := by rw [Itm.littles]
theorem littles_all : ∀ {l : List Itm}, Itm.littles l = true → ∀ x ∈ l, x.little = true
  | [], _, x, hx => by cases hx
  | y :: l, h, x, hx => by
    rw [Itm.littles_cons, Bool.and_eq_true] at h
    rcases List.mem_cons.1 hx with rfl | hx
    · exact h.1
    · exact littles_all h.2 x hx
mutual
def Itm.big : Itm → Prop
  | ⟨_, a, t, _, _, u, o, w, l, f, s, _, _, _, e, b⟩ => (a.length < 1000000000000000000 ∧ ∀ x ∈ a, x.label.length < 1000000000000000000) ∧ (t.length < 1000000000000000000 ∧ ∀ x ∈ t, x.label.length < 1000000000000000000) ∧ u.fit ∧ o.length < 1000000000000000000 ∧ w.length < 1000000000000000000 ∧
    (l.length < 1000000000000000000 ∧ f.length < 1000000000000000000 ∧ s.event.length < 1000000000000000000 ∧ e.length < 1000000000000000000) ∧ b.length < 1000000000000000000 ∧ Itm.bigs b
def Itm.bigs : List Itm → Prop
  | [] => True
  | u :: us => Itm.big u ∧ Itm.bigs us
end
theorem Itm.bigs_iff : ∀ {us : List Itm}, Itm.bigs us ↔ ∀ k ∈ us, k.big
  | [] => by simp [Itm.bigs]
  | u :: us => by simp [Itm.bigs, Itm.bigs_iff (us := us)]
theorem Itm.big_eq (x : Itm) : x.big ↔ (x.at_.length < 1000000000000000000 ∧ ∀ y ∈ x.at_, y.label.length < 1000000000000000000) ∧ (x.to_.length < 1000000000000000000 ∧ ∀ y ∈ x.to_, y.label.length < 1000000000000000000) ∧ x.unit.fit ∧ x.old.length < 1000000000000000000 ∧ x.new.length < 1000000000000000000 ∧
    (x.label.length < 1000000000000000000 ∧ x.for_.length < 1000000000000000000 ∧ x.start.event.length < 1000000000000000000 ∧ x.event.length < 1000000000000000000) ∧ x.by_.length < 1000000000000000000 ∧ ∀ k ∈ x.by_, k.big := by
  cases x
  rw [Itm.big, Itm.bigs_iff]
theorem big_fit : ∀ x : Itm, x.big → x.fit := by
  refine Itm.ind fun x ih h => ?_
  obtain ⟨⟨a1, _⟩, ⟨b1, _⟩, c, d, e, _, f, g⟩ := (Itm.big_eq x).1 h
  exact (Itm.fit_eq x).2 ⟨a1, b1, c, d, e, f, fun k hk => ih k hk (g k hk)⟩
theorem little_shorts : ∀ x : Itm, x.big → x.little = true → x.Shorts := by
  refine Itm.ind fun x ih h hl => ?_
  have hfit := big_fit x h
  obtain ⟨⟨a1, a2⟩, ⟨b1, b2⟩, c, d, e, ⟨s1, s2, s3, s4⟩, f, g⟩ := (Itm.big_eq x).1 h
  rw [Itm.little_eq, Bool.and_eq_true] at hl
  have hb := littles_all hl.2
  have h0 := hl.1
  unfold Itm.little0 at h0
  simp only [Bool.and_eq_true, decide_eq_true_eq] at h0
  obtain ⟨l1, l2, l3, l4, l5, l6, l7, l8, l9⟩ := h0
  exact (Itm.Shorts_eq x).2 ⟨⟨hfit, few7_short c (by omega) l9, by omega, by omega, a2, b2, by omega, by omega, s1, s2, s3, s4⟩, fun k hk => ih k hk (g k hk) (hb k hk)⟩
def fewB (l : List Dd) : Bool := (l.all fun d => d.it.little) && decide ((l.length : Int) ≤ 16)
end Go.Av
end

section
namespace Go.Av
open Go Go.RowKit Go.Proofs
set_option linter.unusedSimpArgs false
set_option linter.unusedVariables false

theorem open_itemB : ∀ (n : Nat) (a : List AV), Shp Tryz.prog reachBytes n 34 a → ∃ x : Itm, a = x.cs ∧ x.big := by
  intro n
  induction n using Nat.strongRecOn with
  | ind n ih =>
    intro a h
    obtain ⟨m, rfl, g⟩ := shp_struct Tryz.underlying34 h
    clear h
    simp only [toL, ShpF] at g
    obtain ⟨a1, b1, rfl, h1, a2, b2, rfl, h2, a3, b3, rfl, h3, a4, b4, rfl, h4, a5, b5, rfl, h5, a6, b6, rfl, h6, a7, b7, rfl, h7, a8, b8, rfl, h8, a9, b9, rfl, h9, a10, b10, rfl, h10, a11, b11, rfl, h11, a12, b12, rfl, h12, a13, b13, rfl, h13, a14, b14, rfl, h14, a15, b15, rfl, h15, a16, b16, rfl, h16, rfl⟩ := g
    obtain ⟨k, rfl⟩ := shp_int Tryz.underlying3 h1
    obtain ⟨l2, rfl, q2, t2⟩ := open_steps h2
    obtain ⟨l3, rfl, q3, t3⟩ := open_steps h3
    obtain ⟨i4, rfl⟩ := shp_int Tryz.underlying3 h4
    obtain ⟨i5, rfl⟩ := shp_int Tryz.underlying3 h5
    obtain ⟨u6, rfl, q6⟩ := open_unit _ _ h6
    obtain ⟨l7, rfl, q7, _⟩ := open_strs h7
    obtain ⟨l8, rfl, q8, _⟩ := open_strs h8
    obtain ⟨s9, z9, rfl⟩ := shp_str Tryz.underlying9 h9
    obtain ⟨s10, z10, rfl⟩ := shp_str Tryz.underlying9 h10
    obtain ⟨s11, rfl, z11⟩ := open_start h11
    obtain ⟨i12, rfl⟩ := shp_int Tryz.underlying3 h12
    obtain ⟨i13, rfl⟩ := shp_int Tryz.underlying3 h13
    obtain ⟨i14, rfl⟩ := shp_int Tryz.underlying3 h14
    obtain ⟨s15, z15, rfl⟩ := shp_str Tryz.underlying9 h15
    obtain ⟨l16, rfl, q16, p16⟩ := shp_slice (f := Itm.cs) (q := Itm.big) (sz := 25) Tryz.underlying32 (by kernel_rfl) (fun m' hm r hr => ih m' (by omega) r hr) h16
    refine ⟨⟨k, l2, l3, i4, i5, u6, l7, l8, s9, s10, s11, i12, i13, i14, s15, l16⟩, ?_, (Itm.big_eq _).2 ⟨⟨q2, t2⟩, ⟨q3, t3⟩, q6, q7, q8, ⟨big_of z9, big_of z10, z11, big_of z15⟩, big_of q16, p16⟩⟩
    rw [Itm.cs_eq, U.cs_eq]
    rfl
theorem open_deed {n : Nat} {a : List AV} (h : Shp Tryz.prog reachBytes n 36 a) : ∃ d : Dd, a = d.cs ∧ d.it.big := by
  obtain ⟨m, rfl, g⟩ := shp_struct Tryz.underlying36 h
  clear h
  simp only [toL, ShpF] at g
  obtain ⟨a1, b1, rfl, h1, a2, b2, rfl, h2, a3, b3, rfl, h3, a4, b4, rfl, h4, rfl⟩ := g
  obtain ⟨i1, rfl⟩ := shp_int Tryz.underlying3 h1
  obtain ⟨i2, rfl⟩ := shp_int Tryz.underlying3 h2
  obtain ⟨i3, rfl⟩ := shp_int Tryz.underlying3 h3
  obtain ⟨x, rfl, hx⟩ := open_itemB _ _ h4
  exact ⟨⟨i1, i2, i3, x⟩, by simp [Dd.cs], hx⟩
end Go.Av
end

section
namespace Go.Av
open Go

abbrev t10_0 : DT := .done
abbrev t10_1 : DT := .step (qa 3 (mt 23)) t10_0
abbrev t10_2 : DT := .step (⟨none, none, .store 8 (.t 2) (.t 22)⟩) t10_1
abbrev t10_3 : DT := .step (qa 2 (.alloc 27 zU)) t10_2
abbrev t10_4 : DT := .step (qa 23 (.extract 1 (.t 10))) t10_3
abbrev t10_5 : DT := .step (qa 22 (.extract 0 (.t 10))) t10_4
abbrev t10_6 : DT := .step (qa 10 (mt 21)) t10_5
abbrev t10_7 : DT := .step (qa 21 (.call (.f 17) [.t 11, .t 20])) t10_6
abbrev t10_8 : DT := .step (qa 23 (.extract 1 (.t 10))) t10_2
abbrev t10_9 : DT := .step (qa 22 (.extract 0 (.t 10))) t10_8
abbrev t10_10 : DT := .step (qa 10 (mt 21)) t10_9
abbrev t10_11 : DT := .step (qa 21 (.call (.f 17) [.t 11, .t 20])) t10_10
abbrev t10_12 : DT := .step (qa 2 (.alloc 27 zU)) t10_11
abbrev t10_13 : DT := .both t10_7 t10_12
abbrev t10_14 : DT := .step (qa 20 (.buildS 36 28 2 [.int .i64 0, .int .i64 0, .int .i64 0, .int .i64 0, .nil, .nil, .int .i64 0, .int .i64 0, .int .i64 0, .int .i64 0, .int .i64 0, .int .i64 0, .str [], .nil, .nil, .nil, .nil, .nil, .str [], .str [], .int .i64 0, .int .i64 0, .str [], .int .i64 0, .int .i64 0, .int .i64 0, .str [], .nil, .int .i64 0, .int .i64 0, .int .i64 0, .int .i64 0, .nil, .nil, .int .i64 0, .int .i64 0, .int .i64 0, .int .i64 0, .int .i64 0, .int .i64 0, .str [], .nil, .nil, .nil, .nil, .nil, .str [], .str [], .int .i64 0, .int .i64 0, .str [], .int .i64 0, .int .i64 0, .int .i64 0, .str [], .nil] [(0, .t 14), (1, .t 19)])) t10_13
abbrev t10_15 : DT := .step (qa 20 (.buildS 36 28 2 [.int .i64 0, .int .i64 0, .int .i64 0, .int .i64 0, .nil, .nil, .int .i64 0, .int .i64 0, .int .i64 0, .int .i64 0, .int .i64 0, .int .i64 0, .str [], .nil, .nil, .nil, .nil, .nil, .str [], .str [], .int .i64 0, .int .i64 0, .str [], .int .i64 0, .int .i64 0, .int .i64 0, .str [], .nil, .int .i64 0, .int .i64 0, .int .i64 0, .int .i64 0, .nil, .nil, .int .i64 0, .int .i64 0, .int .i64 0, .int .i64 0, .int .i64 0, .int .i64 0, .str [], .nil, .nil, .nil, .nil, .nil, .str [], .str [], .int .i64 0, .int .i64 0, .str [], .int .i64 0, .int .i64 0, .int .i64 0, .str [], .nil] [(0, .t 14), (1, .t 19)])) t10_11
abbrev t10_16 : DT := .step (qa 2 (.alloc 27 zU)) t10_15
abbrev t10_17 : DT := .both t10_14 t10_16
abbrev t10_18 : DT := .step (qa 19 (.build [.int .i64 0, .int .i64 0, .int .i64 0, .int .i64 0, .nil, .nil, .int .i64 0, .int .i64 0, .int .i64 0, .int .i64 0, .int .i64 0, .int .i64 0, .str [], .nil, .nil, .nil, .nil, .nil, .str [], .str [], .int .i64 0, .int .i64 0, .str [], .int .i64 0, .int .i64 0, .int .i64 0, .str [], .nil] [(0, (1, .c (.int .i64 2))), (3, (25, .t 18))])) t10_17
abbrev t10_19 : DT := .step (qa 18 (.build zItm [(0, (1, .c (.int .i64 2))), (1, (1, .t 15)), (13, (1, .t 16)), (14, (1, .t 17))])) t10_18
abbrev t10_20 : DT := .step (qa 17 (.buildS 9 1 1 [.str []] [(0, .c (.str [99]))])) t10_19
abbrev t10_21 : DT := .step (qa 19 (.build [.int .i64 0, .int .i64 0, .int .i64 0, .int .i64 0, .nil, .nil, .int .i64 0, .int .i64 0, .int .i64 0, .int .i64 0, .int .i64 0, .int .i64 0, .str [], .nil, .nil, .nil, .nil, .nil, .str [], .str [], .int .i64 0, .int .i64 0, .str [], .int .i64 0, .int .i64 0, .int .i64 0, .str [], .nil] [(0, (1, .c (.int .i64 2))), (3, (25, .t 18))])) t10_15
abbrev t10_22 : DT := .step (qa 18 (.build zItm [(0, (1, .c (.int .i64 2))), (1, (1, .t 15)), (13, (1, .t 16)), (14, (1, .t 17))])) t10_21
abbrev t10_23 : DT := .step (qa 17 (.buildS 9 1 1 [.str []] [(0, .c (.str [99]))])) t10_22
abbrev t10_24 : DT := .step (qa 2 (.alloc 27 zU)) t10_23
abbrev t10_25 : DT := .both t10_20 t10_24
abbrev t10_26 : DT := .step (qa 16 (.buildS 9 1 1 [.str []] [(0, .c (.str [97]))])) t10_25
abbrev t10_27 : DT := .step (qa 16 (.buildS 9 1 1 [.str []] [(0, .c (.str [97]))])) t10_19
abbrev t10_28 : DT := .step (qa 16 (.buildS 9 1 1 [.str []] [(0, .c (.str [97]))])) t10_22
abbrev t10_29 : DT := .step (qa 2 (.alloc 27 zU)) t10_28
abbrev t10_30 : DT := .both t10_27 t10_29
abbrev t10_31 : DT := .step (qa 17 (.buildS 9 1 1 [.str []] [(0, .c (.str [99]))])) t10_30
abbrev t10_32 : DT := .step (qa 16 (.buildS 9 1 1 [.str []] [(0, .c (.str [97]))])) t10_23
abbrev t10_33 : DT := .step (qa 17 (.buildS 9 1 1 [.str []] [(0, .c (.str [99]))])) t10_28
abbrev t10_34 : DT := .both t10_32 t10_33
abbrev t10_35 : DT := .step (qa 2 (.alloc 27 zU)) t10_34
abbrev t10_36 : DT := .both t10_31 t10_35
abbrev t10_37 : DT := .both t10_26 t10_36
abbrev t10_38 : DT := .step (qa 15 (.call (.f 32) [])) t10_37
abbrev t10_39 : DT := .step (qa 15 (.call (.f 32) [])) t10_25
abbrev t10_40 : DT := .step (qa 15 (.call (.f 32) [])) t10_19
abbrev t10_41 : DT := .step (qa 15 (.call (.f 32) [])) t10_22
abbrev t10_42 : DT := .step (qa 2 (.alloc 27 zU)) t10_41
abbrev t10_43 : DT := .both t10_40 t10_42
abbrev t10_44 : DT := .step (qa 17 (.buildS 9 1 1 [.str []] [(0, .c (.str [99]))])) t10_43
abbrev t10_45 : DT := .step (qa 15 (.call (.f 32) [])) t10_23
abbrev t10_46 : DT := .step (qa 17 (.buildS 9 1 1 [.str []] [(0, .c (.str [99]))])) t10_41
abbrev t10_47 : DT := .both t10_45 t10_46
abbrev t10_48 : DT := .step (qa 2 (.alloc 27 zU)) t10_47
abbrev t10_49 : DT := .both t10_44 t10_48
abbrev t10_50 : DT := .both t10_39 t10_49
abbrev t10_51 : DT := .step (qa 16 (.buildS 9 1 1 [.str []] [(0, .c (.str [97]))])) t10_50
abbrev t10_52 : DT := .step (qa 15 (.call (.f 32) [])) t10_30
abbrev t10_53 : DT := .step (qa 16 (.buildS 9 1 1 [.str []] [(0, .c (.str [97]))])) t10_43
abbrev t10_54 : DT := .step (qa 15 (.call (.f 32) [])) t10_28
abbrev t10_55 : DT := .step (qa 16 (.buildS 9 1 1 [.str []] [(0, .c (.str [97]))])) t10_41
abbrev t10_56 : DT := .both t10_54 t10_55
abbrev t10_57 : DT := .step (qa 2 (.alloc 27 zU)) t10_56
abbrev t10_58 : DT := .both t10_53 t10_57
abbrev t10_59 : DT := .both t10_52 t10_58
abbrev t10_60 : DT := .step (qa 17 (.buildS 9 1 1 [.str []] [(0, .c (.str [99]))])) t10_59
abbrev t10_61 : DT := .step (qa 15 (.call (.f 32) [])) t10_34
abbrev t10_62 : DT := .step (qa 16 (.buildS 9 1 1 [.str []] [(0, .c (.str [97]))])) t10_47
abbrev t10_63 : DT := .step (qa 17 (.buildS 9 1 1 [.str []] [(0, .c (.str [99]))])) t10_56
abbrev t10_64 : DT := .both t10_62 t10_63
abbrev t10_65 : DT := .both t10_61 t10_64
abbrev t10_66 : DT := .step (qa 2 (.alloc 27 zU)) t10_65
abbrev t10_67 : DT := .both t10_60 t10_66
abbrev t10_68 : DT := .both t10_51 t10_67
abbrev t10_69 : DT := .both t10_38 t10_68
abbrev t10_70 : DT := .step (qa 11 (.call (.f 21) [])) t10_69
abbrev t10_71 : DT := .step (qa 11 (.call (.f 21) [])) t10_50
abbrev t10_72 : DT := .step (qa 11 (.call (.f 21) [])) t10_43
abbrev t10_73 : DT := .step (qa 11 (.call (.f 21) [])) t10_41
abbrev t10_74 : DT := .step (qa 2 (.alloc 27 zU)) t10_73
abbrev t10_75 : DT := .both t10_72 t10_74
abbrev t10_76 : DT := .step (qa 17 (.buildS 9 1 1 [.str []] [(0, .c (.str [99]))])) t10_75
abbrev t10_77 : DT := .step (qa 11 (.call (.f 21) [])) t10_47
abbrev t10_78 : DT := .step (qa 17 (.buildS 9 1 1 [.str []] [(0, .c (.str [99]))])) t10_73
abbrev t10_79 : DT := .both t10_77 t10_78
abbrev t10_80 : DT := .step (qa 2 (.alloc 27 zU)) t10_79
abbrev t10_81 : DT := .both t10_76 t10_80
abbrev t10_82 : DT := .both t10_71 t10_81
abbrev t10_83 : DT := .step (qa 16 (.buildS 9 1 1 [.str []] [(0, .c (.str [97]))])) t10_82
abbrev t10_84 : DT := .step (qa 11 (.call (.f 21) [])) t10_59
abbrev t10_85 : DT := .step (qa 16 (.buildS 9 1 1 [.str []] [(0, .c (.str [97]))])) t10_75
abbrev t10_86 : DT := .step (qa 11 (.call (.f 21) [])) t10_56
abbrev t10_87 : DT := .step (qa 16 (.buildS 9 1 1 [.str []] [(0, .c (.str [97]))])) t10_73
abbrev t10_88 : DT := .both t10_86 t10_87
abbrev t10_89 : DT := .step (qa 2 (.alloc 27 zU)) t10_88
abbrev t10_90 : DT := .both t10_85 t10_89
abbrev t10_91 : DT := .both t10_84 t10_90
abbrev t10_92 : DT := .step (qa 17 (.buildS 9 1 1 [.str []] [(0, .c (.str [99]))])) t10_91
abbrev t10_93 : DT := .step (qa 11 (.call (.f 21) [])) t10_65
abbrev t10_94 : DT := .step (qa 16 (.buildS 9 1 1 [.str []] [(0, .c (.str [97]))])) t10_79
abbrev t10_95 : DT := .step (qa 17 (.buildS 9 1 1 [.str []] [(0, .c (.str [99]))])) t10_88
abbrev t10_96 : DT := .both t10_94 t10_95
abbrev t10_97 : DT := .both t10_93 t10_96
abbrev t10_98 : DT := .step (qa 2 (.alloc 27 zU)) t10_97
abbrev t10_99 : DT := .both t10_92 t10_98
abbrev t10_100 : DT := .both t10_83 t10_99
abbrev t10_101 : DT := .both t10_70 t10_100
abbrev t10_102 : DT := .step (qa 14 (.build [.int .i64 0, .int .i64 0, .int .i64 0, .int .i64 0, .nil, .nil, .int .i64 0, .int .i64 0, .int .i64 0, .int .i64 0, .int .i64 0, .int .i64 0, .str [], .nil, .nil, .nil, .nil, .nil, .str [], .str [], .int .i64 0, .int .i64 0, .str [], .int .i64 0, .int .i64 0, .int .i64 0, .str [], .nil] [(0, (1, .c (.int .i64 1))), (3, (25, .t 13))])) t10_101
abbrev t10_103 : DT := .step (qa 13 (.build zItm [(0, (1, .c (.int .i64 0))), (3, (1, .c (.int .i64 1))), (5, (8, .t 12))])) t10_102
abbrev t10_104 : DT := .step (qa 12 (.loadF true 8 (.t 1))) t10_103
def r10g : RL := [(0, none)]
def s10g : SCode := qs (qr [qa 0 (.mov qf)] []) (qs (.ghost [qa 5 (.build [.str [], .int .i64 0, .int .i64 0, .int .i64 0] [(0, (1, .c (.str [97])))]), qa 6 (.build [.str [], .int .i64 0, .int .i64 0, .int .i64 0] [(0, (1, .c (.str [98])))]), qa 7 (.build [.str [], .int .i64 0, .int .i64 0, .int .i64 0] [(0, (1, .c (.str [97])))]), qa 8 (.buildS 64 4 3 [.str [], .int .i64 0, .int .i64 0, .int .i64 0, .str [], .int .i64 0, .int .i64 0, .int .i64 0, .str [], .int .i64 0, .int .i64 0, .int .i64 0] [(0, .t 5), (1, .t 6), (2, .t 7)]), qa 9 (.build zU [(3, (1, .c (.int .i64 2))), (4, (1, .c (.str [53]))), (6, (1, .t 8))]), qa 1 (.alloc 27 zU), ⟨none, none, .store 8 (.t 1) (.t 9)⟩] [1]) (qs (.drawT t10_104 [2, 3]) (qs (qs (qr [qa 24 (mt 3), qa 25 (.len (.t 24)), qa 26 (.bin .neq (.t 25) (qi 0)), qa 27 (mt 26), qc 28 27 (fa 7 2), qc 29 27 (lo 28), qc 30 27 (.len (.t 29)), qc 31 27 (.bin .neq (.t 30) (qi 1)), qa 32 (.pick (.t 27) qt (.t 31)), qa 33 (mt 32), qc 34 33 (fa 7 2), qc 35 33 (lo 34), qc 36 33 (.indexA 8 (.t 35) (qi 0)), qc 37 33 (fa 6 36), qc 38 33 (lo 37), qc 39 33 (.len (.t 38)), qc 40 33 (.bin .neq (.t 39) (qi 3)), qa 41 (.pick (.t 33) qt (.t 40))] [2, 41]) (.cond (.t 41) (qs (qr [qa 0 (.mov qf)] [0]) .ret) .skip)) (qs (qr [qa 42 (fa 7 2), qa 43 (lo 42), qa 44 (.indexA 8 (.t 43) (qi 0)), qa 45 (fa 6 44), qa 46 (lo 45), qa 4 (mt 46)] [2, 4]) (qs (qr [qa 47 (fa 7 2), qa 48 (lo 47), qa 49 (.indexA 8 (.t 48) (qi 0)), qa 50 (fa 0 49), qa 51 (lm 3 50), qa 52 (.build [.int .i64 0, .int .i64 0, .int .i64 0] [(0, (1, .c (.int .i64 1))), (2, (1, .c (.int .i64 1)))]), qa 53 (.eqs false [1, 1, 1] (.t 51) (.t 52)), qa 54 (mt 53), qb 55 54 (mt 4), qb 56 54 (.indexA 4 (.t 55) (qi 0)), qb 57 54 (lm 4 56), qb 58 54 (.build [.int .i64 0, .int .i64 0, .int .i64 0] [(0, (1, .c (.int .i64 2)))]), qb 59 54 (.build [.str [], .int .i64 0, .int .i64 0, .int .i64 0] [(0, (1, .c (.str [99]))), (1, (3, .t 58))]), qb 60 54 (.eqs false [2, 1, 1, 1] (.t 57) (.t 59)), qa 61 (.pick (.t 54) (.t 60) qf), qa 62 (mt 61), qb 63 62 (mt 4), qb 64 62 (.indexA 4 (.t 63) (qi 1)), qb 65 62 (lm 4 64), qb 66 62 (.build [.int .i64 0, .int .i64 0, .int .i64 0] [(0, (1, .c (.int .i64 1))), (2, (1, .c (.int .i64 1)))]), qb 67 62 (.build [.str [], .int .i64 0, .int .i64 0, .int .i64 0] [(0, (1, .c (.str [98]))), (1, (3, .t 66))]), qb 68 62 (.eqs false [2, 1, 1, 1] (.t 65) (.t 67)), qa 69 (.pick (.t 62) (.t 68) qf), qa 70 (mt 69), qb 71 70 (mt 4), qb 72 70 (.indexA 4 (.t 71) (qi 2)), qb 73 70 (lm 4 72), qb 74 70 (.build [.int .i64 0, .int .i64 0, .int .i64 0] [(0, (1, .c (.int .i64 2))), (2, (1, .c (.int .i64 1)))]), qb 75 70 (.build [.str [], .int .i64 0, .int .i64 0, .int .i64 0] [(0, (1, .c (.str [99]))), (1, (3, .t 74))]), qb 76 70 (.eqs false [2, 1, 1, 1] (.t 73) (.t 75)), qa 77 (.pick (.t 70) (.t 76) qf), qa 0 (mt 77)] [0]) .ret)))))
theorem c10g : fnAt Proofs.Tryz.prog 10 [1, 2000001] = some (r10g, s10g) := by kernel_rfl

end Go.Av
end
